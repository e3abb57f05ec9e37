/- Part 18: B59, B93, B94, B95. -/
import Derived.Test.YtkplfaionpplaaaGreatDoorK17
import Derived.LaidEql
import Derived.Deep.Cut
set_option maxRecDepth 100000
set_option maxHeartbeats 6400000
set_option linter.unusedVariables false
set_option linter.unusedSimpArgs false
namespace Go.Proofs.YtkplfaionpplaaaGreatDoor
open Go.RowKit Go.Proofs.YtkplfaionpplaaaGreatDoorW.PrintWords
theorem set3 {w:World}{k:Nat}{t:TypeId}{a0 a1 a2:Value}(h:w.heap[k]?=some (.cells #[a0,a1,a2] t (0,0)))(x0 x1 x2:Value):
  (((w.setCell ⟨k,0,none⟩ x0).setCell ⟨k,1,none⟩ x1).setCell ⟨k,2,none⟩ x2).heap[k]?=some (.cells #[x0,x1,x2] t (0,0)):=by
 have h1:=set_blk h 0 x0
 have h2:=set_blk h1 1 x1
 have h3:=set_blk h2 2 x2
 simpa using h3
theorem below_set3 {B k:Nat}{w W:World}{x0 x1 x2:Value}(hb:Below B w W)(hk:B<=k):Below B w (((W.setCell ⟨k,0,none⟩ x0).setCell ⟨k,1,none⟩ x1).setCell ⟨k,2,none⟩ x2):=below_set (below_set (below_set hb hk) hk) hk
structure IB (w:World)(kq kr:Nat)(q n:Int):Prop where
 q:w.heap[kq]?=some (.cells #[.int .i64 q,.int .i64 n] 23 (0,0))
 r:w.heap[kr]?=some (.cells #[.int .i64 0,.bool false,.int .i64 0] 36 (0,0))
theorem IB.below {w w':World}{kq kr:Nat}{q n:Int}(h:IB w kq kr q n)(hb:Below w.heap.size w w'):IB w' kq kr q n:=⟨below_blk hb h.q (blk_lt h.q),below_blk hb h.r (blk_lt h.r)⟩
theorem IB.drew {w:World}{kq kr:Nat}{q n:Int}(h:IB w kq kr q n):IB w.drew kq kr q n:=⟨h.q,h.r⟩
theorem IB.facts {w:World}{kq kr:Nat}{q n:Int}(h:IB w kq kr q n):w.cell? ⟨kr,0,none⟩=some (.int .i64 0)/\w.cell? ⟨kr,1,none⟩=some (.bool false)/\w.cell? ⟨kr,2,none⟩=some (.int .i64 0)/\w.frozen? ⟨kr,0,none⟩=false/\w.frozen? ⟨kr,1,none⟩=false/\w.frozen? ⟨kr,2,none⟩=false:=
 ⟨(cell_blk h.r _).trans rfl,(cell_blk h.r _).trans rfl,(cell_blk h.r _).trans rfl,frozen_blk h.r _,frozen_blk h.r _,frozen_blk h.r _⟩
theorem IB.ring {w:World}{kq kr:Nat}{q n:Int}(h:IB w kq kr q n):w.cell? ⟨kq,0,none⟩=some (.int .i64 q)/\w.cell? ⟨kq,1,none⟩=some (.int .i64 n):=⟨(cell_blk h.q _).trans rfl,(cell_blk h.q _).trans rfl⟩
theorem none_lit (w:World):Calls Tryz.prog 52 #[] w fun e w'=>e= .returned (.agg #[.int .i64 0,.bool false,.int .i64 0])/\Below w.heap.size w w':=ref_none w
theorem bare_lit (w:World)(c:Int):Calls Tryz.prog 53 #[.int .i64 c] w fun e w'=>e= .returned (.agg #[.int .i64 c,.bool false,.int .i64 0])/\Below w.heap.size w w':=ref_bare w c
theorem placed_lit (w:World)(c i:Int)(hc:c≠0):Calls Tryz.prog 51 #[.int .i64 c,.int .i64 i] w fun e w'=>e= .returned (.agg #[.int .i64 c,.bool true,.int .i64 i])/\Below w.heap.size w w':=ref_placed w c i hc
theorem ref_inputs {w:World}{q n:Int}{vars:List Al.Var}{ins:List (List Int)}{tape:List Int}{Va Ia Ta:Option Addr}{vc ic tc:Nat}(fuel:Int)(hv:kVar.C w Va vars.length vars)(hvl:vars.length<=1000)(hi:Kd.C (Kd.slice 3 (Kd.int .i64)) w Ia ins.length ins)(hil:ins.length<=1000000):
  Calls Tryz.prog 21 #[.agg #[.int .i64 q,.int .i64 n],.slice Va vars.length vc,.slice Ia ins.length ic,.slice Ta tape.length tc,.int .i64 fuel] w fun e w'=>e= .returned (faultV (Al.inputsF q n vars ins tape fuel))/\Below w.heap.size w w':=by
 obtain⟨R,hR⟩:∃ R,R=Al.inputsF q n vars ins tape fuel:=⟨_,rfl⟩
 rw [<-hR]
 obtain⟨W,hW⟩:∃ W,W=((w.alloc (.cells #[.int .i64 q,.int .i64 n] 23)).alloc (.cells #[.int .i64 0,.bool false,.int .i64 0] 36)).alloc (.cells #[.int .i64 q,.int .i64 n,.slice Va vars.length vc,.slice none 0 0] 27):=⟨_,rfl⟩
 have hb0:Below w.heap.size w W:=by rw [hW];exact (alloc_two w _ _).alloc (by simp;omega) _
 obtain⟨kq,hkq⟩:∃ kq,kq=w.heap.size:=⟨_,rfl⟩
 have I0:IB W kq (kq+1) q n:=by
  rw [hW,hkq]
  exact⟨alloc_blk _ (alloc_blk _ (heap_alloc_new w _)),alloc_blk _ (alloc_at _ _ _)⟩
 have HK:=ref_kinds (w:=W) (q:=q) (n:=n) (vc:=vc) none 0 0 (Kd.C_below hv hb0) hvl 1
 have hkl:=kindsFrom_len vars 1 0
 obtain⟨K,hK⟩:∃ K,K=Al.kindsOf vars 1:=⟨_,rfl⟩
 rw [<-hK] at HK
 unfold Al.inputsF at hR
 rw [<-hK] at hR
 have hKl:K.length<=1000:=by rw [hK];unfold Al.kindsOf;omega
 replace hK:=Lib.hid hK
 clear hkl
 have HI:=Lib.hid hi
 go_enter Tryz.func21,Tryz.ntmps21
 go_wp2_with fail
 rw [<-hW]
 simp only [<-hkq]
 clear hW hv
 have hkr:w.heap.size<=kq+1:=by rw [hkq];omega
 replace hkq:=Lib.hid hkq
 by_cases cl:(ins.length:Int)=K.length
 ·rw [if_neg (by omega)] at hR
  have z:((ins.length:Int) !=(K.length:Int))=false:=by simp [cl]
  have z':((ins.length:Int) == (K.length:Int))=true:=by simp [cl]
  have hR':=Lib.hid hR
  clear hR cl
  go_wp2_with (first|(go_at_call 33;refine HK.mono ?_;rintro e w1 ⟨vk,rfl,hown,hb1⟩;obtain⟨ka,kc,rfl⟩:=own_slice hown;have I1:=I0.below hb1;have hbb:=hb0.trans (lower_below hb1 hb0.size)))
  have HH:Hid (IB w1 kq (kq+1) q n/\Below w.heap.size w w1):=Lib.hid ⟨I1,hbb⟩
  clear I1 hbb hb1 hown I0 hb0 HK
  obtain⟨FV,hFV⟩:∃ FV,FV=Al.firstV q n ins 0:=⟨_,rfl⟩
  have hR0:=show R=_ from hR'
  rw [<-hFV] at hR0
  have hR':=Lib.hid hR0
  clear hR0
  replace hFV:=Lib.hid hFV
  go_loopg [12,13] (ins.length+1) (fun gk v12 v13 w'=>∃ i:Nat,v12= .int .i64 i/\i+gk=ins.length+1/\i<=ins.length/\Hid (FV=Al.firstV q n (ins.drop i) i)/\Hid (IB w' kq (kq+1) q n/\Below w.heap.size w w'))
  case atStart=>exact⟨0,rfl,by omega,by omega,Lib.hid (show FV=_ from hFV),HH⟩
  case round=>
   obtain⟨i,rfl,hg,hi2,HF,HW⟩:=hrel
   have hF:=show FV=Al.firstV q n (ins.drop i) i from HF
   obtain⟨I1,hbb⟩:=show IB wr kq (kq+1) q n/\Below w.heap.size w wr from HW
   obtain⟨q0,q1⟩:=I1.ring
   clear HH HF HW
   by_cases hil:i<ins.length
   ·obtain⟨k1,rfl⟩:∃ k1,gk=k1+1:=⟨gk - 1,by omega⟩
    obtain⟨ad,A0,c0,rfl,d0,l0,g0⟩:=at_L4 (show Kd.C (Kd.slice 3 (Kd.int .i64)) w Ia ins.length ins from HI) (i:Int) (by omega) (by omega)
    simp only [Int.toNat_natCast] at d0
    replace d0:=cell_since hbb d0
    rw [List.drop_eq_getElem_cons hil] at hF
    unfold Al.firstV at hF
    have hx0:rd_L4 ins (i:Int)=ins[i]:=by unfold rd_L4;simp [List.getD_eq_getElem?_getD,hil]
    rw [hx0] at d0 l0 g0
    obtain⟨x,hx⟩:∃ x,x=ins[i]:=⟨_,rfl⟩
    rw [<-hx] at d0 l0 g0 hF
    clear hx hx0
    have HV:=fun (W:World) (hb:Below w.heap.size w W)=>ref_vector (w:=W) (q:=q) (n:=n) (cap:=c0) (Kd.C_below g0 hb)
    have hbd:=below_drew' hbb
    have HVd:=HV wr.drew hbd
    clear g0 HV
    obtain⟨vf,hvf⟩:∃ vf,vf=Al.vectorF q n x:=⟨_,rfl⟩
    rw [<-hvf] at HVd hF
    clear hvf
    have r0:(0:Int)<=(i:Int):=by omega
    have r1:(i:Int)<(ins.length:Int):=by omega
    have r2:decide ((i:Int)<(ins.length:Int))=true:=decide_eq_true r1
    by_cases hz:vf=0
    ·subst hz
     simp only [ne_eq,not_true,if_false] at hF
     have HF:Hid (FV=Al.firstV q n (ins.drop (i+1)) ((i+1:Nat):Int)):=Lib.hid (by rw [Int.natCast_add];exact hF)
     clear hF
     have z0:((0:Int) !=0)=false:=by decide
     go_wp2_with fail
     go_still_tail 5,(by kernel_rfl)
     go_wp2_with (first|(go_at_call 54;refine HVd.mono ?_;rintro e w2 ⟨rfl,hb2⟩;replace hb2:=undrew hb2))
     have HH2:Hid (IB w2 kq (kq+1) q n/\Below w.heap.size w w2):=Lib.hid ⟨I1.below hb2,hbb.trans (lower_below hb2 hbb.size)⟩
     clear hb2 I1 hbb q0 q1 d0 HVd hbd
     go_roundg k1
     case measure=>omega
     case rel=>exact⟨i+1,by simp,by omega,by omega,HF,HH2⟩
    ·rw [if_pos hz] at hF
     have hRR:=show R=_ from hR'
     rw [if_pos (by rw [hF];exact hz),hF] at hRR
     have hRv:=Lib.hid hRR
     have z0:(vf !=0)=true:=by simp [hz]
     have z0':(vf == 0)=false:=by simp [hz]
     clear hRR hF
     have HP:=fun w0=>placed_lit w0 vf (i:Int) hz
     clear hz
     go_wp2_with fail
     go_still_tail 5,(by kernel_rfl)
     go_wp2_with (first|(go_at_call 54;refine HVd.mono ?_;rintro e w2 ⟨rfl,hb2⟩;replace hb2:=undrew hb2;have I2:=I1.below hb2;have hb3:=hbb.trans (lower_below hb2 hbb.size))|(go_at_call 51;refine (HP _).mono ?_;rintro e w9 ⟨rfl,hb9⟩;have I9:=I2.below hb9;obtain⟨z0,z1,z2,y0,y1,y2⟩:=I9.facts;have hb10:=hb3.trans (lower_below hb9 hb3.size);have F9:=set3 I9.r (.int .i64 vf) (.bool true) (.int .i64 i)))
     refine gen_world (Q:=fun W=>bodyPost _ _ _ _ _ W) _ (fun W=>W.heap[kq+1]?=some (.cells #[.int .i64 vf,.bool true,.int .i64 i] 36 (0,0))/\Below w.heap.size w W) ⟨F9,below_set3 hb10 hkr⟩ ?_
     clear F9 hb10 hb9 I9 z0 z1 z2 y0 y1 y2
     rintro W9 ⟨F,HB⟩
     have c0:W9.cell? ⟨kq+1,0,none⟩=some (.int .i64 vf):=(cell_blk F _).trans rfl
     have c1:W9.cell? ⟨kq+1,1,none⟩=some (.bool true):=(cell_blk F _).trans rfl
     have c2:W9.cell? ⟨kq+1,2,none⟩=some (.int .i64 i):=(cell_blk F _).trans rfl
     exact bodyPost_ret (v:= .agg #[.int .i64 vf,.bool true,.int .i64 i]) (by simp [results,Tryz.results21,go_sem,c0,c1,c2]) rfl ⟨by rw [show R=_ from hRv];rfl,HB⟩
   ·have hie:i=ins.length:=by omega
    have t1:decide ((i:Int)<(ins.length:Int))=false:=by simp;omega
    have hRR:=show R=_ from hR'
    rw [hie,List.drop_length] at hF
    rw [if_neg (by rw [hF];simp [Al.firstV,Al.Fault.fine])] at hRR
    clear hF
    by_cases ct:(4096:Int)<tape.length
    ·rw [if_pos (by omega)] at hRR
     have t2:decide ((4096:Int)<(tape.length:Int))=true:=decide_eq_true ct
     have hRv:=Lib.hid hRR
     clear hRR
     go_wp2_with (first|(go_at_call 53;refine (bare_lit _ 102).mono ?_;rintro e w9 ⟨rfl,hb9⟩;have I9:=I1.below hb9;obtain⟨z0,z1,z2,y0,y1,y2⟩:=I9.facts;have hb10:=hbb.trans (lower_below hb9 hbb.size);have F9:=set3 I9.r (.int .i64 102) (.bool false) (.int .i64 0)))
     refine gen_world (Q:=fun W=>bodyPost _ _ _ _ _ W) _ (fun W=>W.heap[kq+1]?=some (.cells #[.int .i64 102,.bool false,.int .i64 0] 36 (0,0))/\Below w.heap.size w W) ⟨F9,below_set3 hb10 hkr⟩ ?_
     clear F9 hb10 hb9 I9 z0 z1 z2 y0 y1 y2
     rintro W9 ⟨F,HB⟩
     have c0:W9.cell? ⟨kq+1,0,none⟩=some (.int .i64 102):=(cell_blk F _).trans rfl
     have c1:W9.cell? ⟨kq+1,1,none⟩=some (.bool false):=(cell_blk F _).trans rfl
     have c2:W9.cell? ⟨kq+1,2,none⟩=some (.int .i64 0):=(cell_blk F _).trans rfl
     exact bodyPost_ret (v:= .agg #[.int .i64 102,.bool false,.int .i64 0]) (by simp [results,Tryz.results21,go_sem,c0,c1,c2]) rfl ⟨by rw [show R=_ from hRv];rfl,HB⟩
    rw [if_neg (by omega)] at hRR
    have t2:decide ((4096:Int)<(tape.length:Int))=false:=decide_eq_false ct
    by_cases cf:fuel<0
    ·rw [if_pos (.inl cf)] at hRR
     have t3:decide (fuel<0)=true:=decide_eq_true cf
     have hRv:=Lib.hid hRR
     clear hRR
     go_wp2_with (first|(go_at_call 53;refine (bare_lit _ 101).mono ?_;rintro e w9 ⟨rfl,hb9⟩;have I9:=I1.below hb9;obtain⟨z0,z1,z2,y0,y1,y2⟩:=I9.facts;have hb10:=hbb.trans (lower_below hb9 hbb.size);have F9:=set3 I9.r (.int .i64 101) (.bool false) (.int .i64 0)))
     refine gen_world (Q:=fun W=>bodyPost _ _ _ _ _ W) _ (fun W=>W.heap[kq+1]?=some (.cells #[.int .i64 101,.bool false,.int .i64 0] 36 (0,0))/\Below w.heap.size w W) ⟨F9,below_set3 hb10 hkr⟩ ?_
     clear F9 hb10 hb9 I9 z0 z1 z2 y0 y1 y2
     rintro W9 ⟨F,HB⟩
     have c0:W9.cell? ⟨kq+1,0,none⟩=some (.int .i64 101):=(cell_blk F _).trans rfl
     have c1:W9.cell? ⟨kq+1,1,none⟩=some (.bool false):=(cell_blk F _).trans rfl
     have c2:W9.cell? ⟨kq+1,2,none⟩=some (.int .i64 0):=(cell_blk F _).trans rfl
     exact bodyPost_ret (v:= .agg #[.int .i64 101,.bool false,.int .i64 0]) (by simp [results,Tryz.results21,go_sem,c0,c1,c2]) rfl ⟨by rw [show R=_ from hRv];rfl,HB⟩
    have t3:decide (fuel<0)=false:=decide_eq_false cf
    by_cases cg:(1073741824:Int)<fuel
    ·rw [if_pos (.inr cg)] at hRR
     have t4:decide ((1073741824:Int)<fuel)=true:=decide_eq_true cg
     have hRv:=Lib.hid hRR
     clear hRR
     go_wp2_with (first|(go_at_call 53;refine (bare_lit _ 101).mono ?_;rintro e w9 ⟨rfl,hb9⟩;have I9:=I1.below hb9;obtain⟨z0,z1,z2,y0,y1,y2⟩:=I9.facts;have hb10:=hbb.trans (lower_below hb9 hbb.size);have F9:=set3 I9.r (.int .i64 101) (.bool false) (.int .i64 0)))
     refine gen_world (Q:=fun W=>bodyPost _ _ _ _ _ W) _ (fun W=>W.heap[kq+1]?=some (.cells #[.int .i64 101,.bool false,.int .i64 0] 36 (0,0))/\Below w.heap.size w W) ⟨F9,below_set3 hb10 hkr⟩ ?_
     clear F9 hb10 hb9 I9 z0 z1 z2 y0 y1 y2
     rintro W9 ⟨F,HB⟩
     have c0:W9.cell? ⟨kq+1,0,none⟩=some (.int .i64 101):=(cell_blk F _).trans rfl
     have c1:W9.cell? ⟨kq+1,1,none⟩=some (.bool false):=(cell_blk F _).trans rfl
     have c2:W9.cell? ⟨kq+1,2,none⟩=some (.int .i64 0):=(cell_blk F _).trans rfl
     exact bodyPost_ret (v:= .agg #[.int .i64 101,.bool false,.int .i64 0]) (by simp [results,Tryz.results21,go_sem,c0,c1,c2]) rfl ⟨by rw [show R=_ from hRv];rfl,HB⟩
    have t4:decide ((1073741824:Int)<fuel)=false:=decide_eq_false cg
    rw [if_neg (by omega)] at hRR
    have hRv:=Lib.hid hRR
    clear hRR
    go_wp2_with (first|(go_at_call 52;refine (none_lit _).mono ?_;rintro e w9 ⟨rfl,hb9⟩;have I9:=I1.below hb9;obtain⟨z0,z1,z2,y0,y1,y2⟩:=I9.facts;have hb10:=hbb.trans (lower_below hb9 hbb.size);have F9:=set3 I9.r (.int .i64 0) (.bool false) (.int .i64 0)))
    refine gen_world (Q:=fun W=>bodyPost _ _ _ _ _ W) _ (fun W=>W.heap[kq+1]?=some (.cells #[.int .i64 0,.bool false,.int .i64 0] 36 (0,0))/\Below w.heap.size w W) ⟨F9,below_set3 hb10 hkr⟩ ?_
    clear F9 hb10 hb9 I9 z0 z1 z2 y0 y1 y2
    rintro W9 ⟨F,HB⟩
    have c0:W9.cell? ⟨kq+1,0,none⟩=some (.int .i64 0):=(cell_blk F _).trans rfl
    have c1:W9.cell? ⟨kq+1,1,none⟩=some (.bool false):=(cell_blk F _).trans rfl
    have c2:W9.cell? ⟨kq+1,2,none⟩=some (.int .i64 0):=(cell_blk F _).trans rfl
    exact bodyPost_ret (v:= .agg #[.int .i64 0,.bool false,.int .i64 0]) (by simp [results,Tryz.results21,go_sem,c0,c1,c2]) rfl ⟨by rw [show R=_ from hRv];rfl,HB⟩
 ·rw [if_pos (by omega)] at hR
  have z:((ins.length:Int) !=(K.length:Int))=true:=by simp [cl]
  have z':((ins.length:Int) == (K.length:Int))=false:=by simp [cl]
  have hR':=Lib.hid hR
  clear hR cl
  go_wp2_with (first|(go_at_call 33;refine HK.mono ?_;rintro e w1 ⟨vk,rfl,hown,hb1⟩;obtain⟨ka,kc,rfl⟩:=own_slice hown;have I1:=I0.below hb1;have hbb:=hb0.trans (lower_below hb1 hb0.size))|(go_at_call 53;refine (bare_lit _ 102).mono ?_;rintro e w9 ⟨rfl,hb9⟩;have I9:=I1.below hb9;obtain⟨z0,z1,z2,y0,y1,y2⟩:=I9.facts;have hb10:=hbb.trans (lower_below hb9 hbb.size);have F9:=set3 I9.r (.int .i64 102) (.bool false) (.int .i64 0)))
  refine gen_world (Q:=fun W=>bodyPost _ _ _ _ _ W) _ (fun W=>W.heap[kq+1]?=some (.cells #[.int .i64 102,.bool false,.int .i64 0] 36 (0,0))/\Below w.heap.size w W) ⟨F9,below_set3 hb10 hkr⟩ ?_
  clear F9 hb10 hb9 I9 z0 z1 z2 y0 y1 y2
  rintro W9 ⟨F,HB⟩
  have c0:W9.cell? ⟨kq+1,0,none⟩=some (.int .i64 102):=(cell_blk F _).trans rfl
  have c1:W9.cell? ⟨kq+1,1,none⟩=some (.bool false):=(cell_blk F _).trans rfl
  have c2:W9.cell? ⟨kq+1,2,none⟩=some (.int .i64 0):=(cell_blk F _).trans rfl
  exact bodyPost_ret (v:= .agg #[.int .i64 102,.bool false,.int .i64 0]) (by simp [results,Tryz.results21,go_sem,c0,c1,c2]) rfl ⟨by rw [show R=_ from hR'];rfl,HB⟩
structure Sent (w:World)(A:Nat->Addr):Prop where
 cell:∀ g,g<14->w.cell? ⟨g,0,none⟩=some (.iface 205 (.pointer (some (A g))))
 ne:∀ g h,g<14->h<14->g≠h->A g≠A h
 row:∀ g,g<14->∃ c t,w.heap[(A g).block]?=some (.cells c t (0,0))
theorem Sent.below {w w':World}{A:Nat->Addr}(h:Sent w A)(hb:Below w.heap.size w w'):Sent w' A:=
 ⟨fun g hg=>cell_since hb (h.cell g hg),h.ne,fun g hg=>by obtain⟨c,t,hr⟩:=h.row g hg;exact⟨c,t,below_blk hb hr (blk_lt hr)⟩⟩
def sv (A:Nat->Addr)(g:Nat):Value:= .iface 205 (.pointer (some (A g)))
def ordS:Nat->Nat
 |0=>0|1=>2|2=>1|3=>5|4=>8|5=>4|6=>7|7=>3|8=>6|9=>9|10=>10|11=>11|12=>12|_=>13
def numS:Nat->Int
 |0=>101|1=>103|2=>102|3=>108|4=>106|5=>104|6=>109|7=>107|8=>105|9=>110|10=>111|11=>112|12=>113|_=>114
theorem ordS_lt:∀ i,ordS i<14:=fun i=>by unfold ordS;split<;> decide
theorem ordS_num:∀ i,i<14->numS (ordS i)=101+i:=by decide
theorem ordS_onto:∀ g,g<14->∃ i,i<14/\ordS i=g:=by decide
theorem comp_ptr:∃ i:TypeInfo,Tryz.prog.info? 205=some i/\i.comparable=true:=by
 obtain⟨i,hi,hc⟩:=Option.map_eq_some_iff.1 (show (Tryz.prog.info? 205).map (·.comparable)=some true by kernel_rfl)
 exact⟨i,hi,hc⟩
theorem size_str:∃ i:TypeInfo,Tryz.prog.info? 222=some i/\i.size≠0:=by
 obtain⟨i,hi,hc⟩:=Option.map_eq_some_iff.1 (show (Tryz.prog.info? 222).map (fun i=>i.size == 0)=some false by kernel_rfl)
 exact⟨i,hi,by simpa using hc⟩
theorem alike_any {w:World}{A:Nat->Addr}(S:Sent w A){g h:Nat}(hg:g<14)(hh:h<14):
  Calls Tryz.prog 133 #[sv A g,sv A h] w fun e w'=>e= .returned (.bool (decide (g=h)))/\w=w':=by
 obtain⟨i,hi,hc⟩:=comp_ptr
 obtain⟨j,hj,hz⟩:=size_str
 obtain⟨ca,ta,ra⟩:=S.row g hg
 obtain⟨cb,tb,rb⟩:=S.row h hh
 unfold sv
 by_cases e:g=h
 ·subst e
  have hd:decide (g=g)=true:=by simp
  rw [hd]
  go_enter Tryz.func133,Tryz.ntmps133
  go_wp2
  rw [run_eql_iface_ptr_same w (A g) Tryz.underlying44 Tryz.underlying205 hi hc hj]
  go_wp2
  exact bodyPost_ret (v:= .bool true) (by simp [results,Tryz.results133,go_sem]) rfl ⟨rfl,rfl⟩
 ·have hd:decide (g=h)=false:=decide_eq_false e
  rw [hd]
  have hne:=S.ne g h hg hh e
  go_enter Tryz.func133,Tryz.ntmps133
  go_wp2
  rw [run_eql_iface_ptr_other w Tryz.underlying44 Tryz.underlying205 hi hc hj hz hne ra rb]
  go_wp2
  exact bodyPost_ret (v:= .bool false) (by simp [results,Tryz.results133,go_sem]) rfl ⟨rfl,rfl⟩
theorem sentinels_any {w:World}{A:Nat->Addr}(S:Sent w A):
  Calls Tryz.prog 132 #[] w fun e w'=>∃ k,e= .returned (.slice (some ⟨k,0,none⟩) 14 14)/\Below w.heap.size w w'/\∀ i,i<14->w'.cell? ⟨k,i,none⟩=some (sv A (ordS i)):=by
 have c0:=S.cell 0 (by decide)
 have c1:=S.cell 1 (by decide)
 have c2:=S.cell 2 (by decide)
 have c3:=S.cell 3 (by decide)
 have c4:=S.cell 4 (by decide)
 have c5:=S.cell 5 (by decide)
 have c6:=S.cell 6 (by decide)
 have c7:=S.cell 7 (by decide)
 have c8:=S.cell 8 (by decide)
 have c9:=S.cell 9 (by decide)
 have c10:=S.cell 10 (by decide)
 have c11:=S.cell 11 (by decide)
 have c12:=S.cell 12 (by decide)
 have c13:=S.cell 13 (by decide)
 go_enter Tryz.func132,Tryz.ntmps132
 go_wp2_with fail
 refine bodyPost_ret (v:= .slice (some ⟨w.heap.size,0,none⟩) 14 14) (by simp [results,Tryz.results132,go_sem]) rfl ⟨w.heap.size,rfl,(Below.refl _ _).alloc (Nat.le_refl _) _,fun i hi=>(cell_blk (heap_alloc_new w _) i).trans ?_⟩
 rcases i with _|_|_|_|_|_|_|_|_|_|_|_|_|_|i
 all_goals first|rfl|omega
theorem sentinel_any {w:World}{A:Nat->Addr}(S:Sent w A){g:Nat}(hg:g<14):
  Calls Tryz.prog 90 #[sv A g] w fun e w'=>e= .returned (.int .i64 (numS g))/\Below w.heap.size w w':=by
 have HS:=Lib.hid S
 have HL:=sentinels_any S
 have HA:=fun (w0:World) (hb:Below w.heap.size w w0) (i:Nat)=>alike_any (S.below hb) hg (ordS_lt i)
 clear S
 go_enter Tryz.func90,Tryz.ntmps90
 go_wp2_with (first|(go_at_call 132;refine HL.mono ?_;rintro e w1 ⟨k,rfl,hb1,hc1⟩))
 have HH:Hid ((∀ j,j<0->ordS j≠g)/\Below w.heap.size w w1/\∀ i,i<14->w1.cell? ⟨k,i,none⟩=some (sv A (ordS i))):=Lib.hid ⟨fun j hj=>by omega,hb1,hc1⟩
 clear hb1 hc1 HL
 go_loopg [4] 15 (fun gk v4 w'=>∃ i:Nat,v4= .int .i64 i/\i+gk=15/\i<=14/\Hid ((∀ j,j<i->ordS j≠g)/\Below w.heap.size w w'/\∀ i,i<14->w'.cell? ⟨k,i,none⟩=some (sv A (ordS i))))
 case atStart=>exact⟨0,rfl,by omega,by omega,HH⟩
 case round=>
  obtain⟨i,rfl,hgk,hi2,HR⟩:=hrel
  obtain⟨h1,h2,h3⟩:=show (∀ j,j<i->ordS j≠g)/\Below w.heap.size w wr/\∀ i,i<14->wr.cell? ⟨k,i,none⟩=some (sv A (ordS i)) from HR
  clear HH
  by_cases hil:i<14
  ·obtain⟨k1,rfl⟩:∃ k1,gk=k1+1:=⟨gk - 1,by omega⟩
   have r2:decide ((i:Int)<14)=true:=decide_eq_true (by omega)
   have r0:(0:Int)<=(i:Int):=by omega
   have r1:(i:Int)<14:=by omega
   have r1':(i:Int)<((14:Nat):Int):=by omega
   have cc:=h3 i hil
   have HX:=HA wr h2 i
   by_cases he:g=ordS i
   ·have hd:decide (g=ordS i)=true:=decide_eq_true he
    have hn:numS g=101+i:=by rw [he];exact ordS_num i hil
    rw [hd] at HX
    have hw:wrap64 (101+(i:Int))=101+i:=by unfold wrap64;omega
    clear he hd h1 HR h3
    go_wp2_with (first|(go_at_call 133;refine HX.mono ?_;rintro e w2 ⟨rfl,rfl⟩))
    exact bodyPost_ret (v:= .int .i64 (101+(i:Int))) (by simp [results,Tryz.results90,go_sem,hw]) rfl ⟨by rw [hn],h2⟩
   ·have hd:decide (g=ordS i)=false:=decide_eq_false he
    rw [hd] at HX
    have HN:Hid ((∀ j,j<i+1->ordS j≠g)/\Below w.heap.size w wr/\∀ i,i<14->wr.cell? ⟨k,i,none⟩=some (sv A (ordS i))):=Lib.hid ⟨fun j hj=>by
     by_cases e:j=i
     ·subst e;exact fun e=>he e.symm
     ·exact h1 j (by omega),h2,h3⟩
    clear he hd h1 HR h3
    go_wp2_with (first|(go_at_call 133;refine HX.mono ?_;rintro e w2 ⟨rfl,rfl⟩))
    go_roundg k1
    case measure=>omega
    case rel=>exact⟨i+1,by simp,by omega,by omega,HN⟩
  ·obtain⟨j,hj,hjg⟩:=ordS_onto g hg
   exact absurd hjg (h1 j (by omega))
def ErrAt (w:World)(A:Nat->Addr)(f:Al.Fault)(v:Value):Prop:=
 (f= .fine/\v= .nilIface)\/(∃ g,g<14/\f= .bare (numS g)/\v=sv A g)\/∃ g i k,g<14/\f= .at_ (numS g) i/\v= .iface 125 (.pointer (some ⟨k,0,none⟩))/\w.heap[k]?=some (.cells #[.int .i64 i,sv A g] 127 (0,0))
theorem ErrAt.below {w w':World}{A:Nat->Addr}{f:Al.Fault}{v:Value}(h:ErrAt w A f v)(hb:Below w.heap.size w w'):ErrAt w' A f v:=by
 rcases h with h|h|⟨g,i,k,h1,h2,h3,h4⟩
 ·exact .inl h
 ·exact .inr (.inl h)
 ·exact .inr (.inr ⟨g,i,k,h1,h2,h3,below_blk hb h4 (blk_lt h4)⟩)
theorem same_fault (w:World)(f g:Al.Fault):Calls Tryz.prog 58 #[faultV f,faultV g] w fun e w'=>e= .returned (.bool (decide (f=g)))/\Below w.heap.size w w':=by
 obtain⟨a,b,c⟩:=f
 obtain⟨a2,b2,c2⟩:=g
 unfold faultV
 by_cases e1:a=a2
 ·subst e1
  have z1:(a == a)=true:=beq_self_eq_true _
  by_cases e2:b=b2
  ·subst e2
   have z2:(b == b)=true:=beq_self_eq_true _
   by_cases e3:c=c2
   ·subst e3
    have z3:(c == c)=true:=beq_self_eq_true _
    rw [show decide ((⟨a,b,c⟩:Al.Fault)=⟨a,b,c⟩)=true by simp]
    go_enter Tryz.func58,Tryz.ntmps58
    go_wp2_with fail
    exact bodyPost_ret (v:= .bool true) (by simp [results,Tryz.results58,go_sem]) rfl ⟨rfl,alloc_two w _ _⟩
   ·have z3:(c == c2)=false:=beq_false_of_ne e3
    rw [show decide ((⟨a,b,c⟩:Al.Fault)=⟨a,b,c2⟩)=false by simp [e3]]
    clear e3
    go_enter Tryz.func58,Tryz.ntmps58
    go_wp2_with fail
    exact bodyPost_ret (v:= .bool false) (by simp [results,Tryz.results58,go_sem]) rfl ⟨rfl,alloc_two w _ _⟩
  ·have z2:(b == b2)=false:=beq_false_of_ne e2
   rw [show decide ((⟨a,b,c⟩:Al.Fault)=⟨a,b2,c2⟩)=false by simp [e2]]
   clear e2
   go_enter Tryz.func58,Tryz.ntmps58
   go_wp2_with fail
   exact bodyPost_ret (v:= .bool false) (by simp [results,Tryz.results58,go_sem]) rfl ⟨rfl,alloc_two w _ _⟩
 ·have z1:(a == a2)=false:=beq_false_of_ne e1
  rw [show decide ((⟨a,b,c⟩:Al.Fault)=⟨a2,b2,c2⟩)=false by simp [e1]]
  clear e1
  go_enter Tryz.func58,Tryz.ntmps58
  go_wp2_with fail
  exact bodyPost_ret (v:= .bool false) (by simp [results,Tryz.results58,go_sem]) rfl ⟨rfl,alloc_two w _ _⟩
theorem as_at_no (v:Value)(w:World):(Instr.typeAssert (.iface 205 v) 44 125 true).run Tryz.prog w= .ok (.tuple #[.pointer none,.bool false]) w:=by kernel_rfl
theorem as_at_yes (v:Value)(w:World):(Instr.typeAssert (.iface 125 v) 44 125 true).run Tryz.prog w= .ok (.tuple #[v,.bool true]) w:=by kernel_rfl
theorem see_fault {w:World}{A:Nat->Addr}(S:Sent w A){f:Al.Fault}{v:Value}(h:ErrAt w A f v):Calls Tryz.prog 59 #[v] w fun e w'=>e= .returned (faultV f)/\Below w.heap.size w w':=by
 obtain⟨W,hW⟩:∃ W,W=w.alloc (.cells #[.int .i64 0,.bool false,.int .i64 0] 36):=⟨_,rfl⟩
 have hb0:Below w.heap.size w W:=by rw [hW];exact (Below.refl _ _).alloc (Nat.le_refl _) _
 obtain⟨k,hk⟩:∃ k,k=w.heap.size:=⟨_,rfl⟩
 have R0:W.heap[k]?=some (.cells #[.int .i64 0,.bool false,.int .i64 0] 36 (0,0)):=by rw [hW,hk];exact heap_alloc_new w _
 rcases h with⟨rfl,rfl⟩|⟨g,hg,rfl,rfl⟩|⟨g,i,k2,hg,rfl,rfl,hA⟩
 ·have HN:=ref_none W
  unfold faultV at HN ⊢
  go_enter Tryz.func59,Tryz.ntmps59
  go_upto_region 1 with fail
  rw [<-hW]
  simp only [<-hk]
  replace hk:=Lib.hid hk
  clear hW
  go_wp2_with (first|(go_at_call 52;refine HN.mono ?_;rintro e w1 ⟨rfl,hb1⟩;have R1:=below_blk hb1 R0 (blk_lt R0);have f0:=frozen_blk R1 0;have f1:=frozen_blk R1 1;have f2:=frozen_blk R1 2;have s0:w1.cell? ⟨k,0,none⟩=some (.int .i64 0):=(cell_blk R1 _).trans rfl;have s1:w1.cell? ⟨k,1,none⟩=some (.bool false):=(cell_blk R1 _).trans rfl;have s2:w1.cell? ⟨k,2,none⟩=some (.int .i64 0):=(cell_blk R1 _).trans rfl;have hb2:=hb0.trans (lower_below hb1 hb0.size)))
  refine gen_world (Q:=fun W=>bodyPost _ _ _ _ _ W) _ (fun W=>W.heap[k]?=some (.cells #[.int .i64 Al.Fault.fine.code,.bool Al.Fault.fine.placed,.int .i64 Al.Fault.fine.pos] 36 (0,0))/\Below w.heap.size w W) ⟨set3 R1 _ _ _,below_set3 hb2 (by have:=show k=w.heap.size from hk;omega)⟩ ?_
  rintro W9 ⟨b9,hb9⟩
  have z0:W9.cell? ⟨k,0,none⟩=some (.int .i64 Al.Fault.fine.code):=(cell_blk b9 _).trans rfl
  have z1:W9.cell? ⟨k,1,none⟩=some (.bool Al.Fault.fine.placed):=(cell_blk b9 _).trans rfl
  have z2:W9.cell? ⟨k,2,none⟩=some (.int .i64 Al.Fault.fine.pos):=(cell_blk b9 _).trans rfl
  exact bodyPost_ret (v:= .agg #[.int .i64 Al.Fault.fine.code,.bool Al.Fault.fine.placed,.int .i64 Al.Fault.fine.pos]) (by simp [results,Tryz.results59,go_sem,z0,z1,z2]) rfl ⟨rfl,hb9⟩
 ·have HB:=fun w0=>ref_bare w0 (numS g)
  have HS:=fun w0 (hb:Below w.heap.size w w0)=>sentinel_any (S.below hb) hg
  unfold sv at HS ⊢
  unfold faultV at HB
  go_enter Tryz.func59,Tryz.ntmps59
  go_upto_region 1 with fail
  rw [<-hW]
  simp only [<-hk]
  replace hk:=Lib.hid hk
  clear hW
  have as0:=fun v w0=>as_at_no v w0
  have tt:(!false)=true:=rfl
  go_wp2_with (first|(go_at_call 90;refine (HS _ hb0).mono ?_;rintro e w1 ⟨rfl,hb1⟩;have hb2:=hb0.trans (lower_below hb1 hb0.size);have R1:=below_blk hb1 R0 (blk_lt R0))|(go_at_call 53;refine (HB _).mono ?_;rintro e w2 ⟨rfl,hb3⟩;have R2:=below_blk hb3 R1 (blk_lt R1);have hb4:=hb2.trans (lower_below hb3 hb2.size);have f0:=frozen_blk R2 0;have f1:=frozen_blk R2 1;have f2:=frozen_blk R2 2;have s0:w2.cell? ⟨k,0,none⟩=some (.int .i64 0):=(cell_blk R2 _).trans rfl;have s1:w2.cell? ⟨k,1,none⟩=some (.bool false):=(cell_blk R2 _).trans rfl;have s2:w2.cell? ⟨k,2,none⟩=some (.int .i64 0):=(cell_blk R2 _).trans rfl))
  refine gen_world (Q:=fun W=>bodyPost _ _ _ _ _ W) _ (fun W=>W.heap[k]?=some (.cells #[.int .i64 (Al.Fault.bare (numS g)).code,.bool (Al.Fault.bare (numS g)).placed,.int .i64 (Al.Fault.bare (numS g)).pos] 36 (0,0))/\Below w.heap.size w W) ⟨set3 R2 _ _ _,below_set3 hb4 (by have:=show k=w.heap.size from hk;omega)⟩ ?_
  rintro W9 ⟨b9,hb9⟩
  have z0:W9.cell? ⟨k,0,none⟩=some (.int .i64 (Al.Fault.bare (numS g)).code):=(cell_blk b9 _).trans rfl
  have z1:W9.cell? ⟨k,1,none⟩=some (.bool (Al.Fault.bare (numS g)).placed):=(cell_blk b9 _).trans rfl
  have z2:W9.cell? ⟨k,2,none⟩=some (.int .i64 (Al.Fault.bare (numS g)).pos):=(cell_blk b9 _).trans rfl
  exact bodyPost_ret (v:=faultV (Al.Fault.bare (numS g))) (by simp [results,Tryz.results59,go_sem,z0,z1,z2,faultV]) rfl ⟨rfl,hb9⟩
 ·have hA1:=below_blk hb0 hA (blk_lt hA)
  have hkk:k≠k2:=by have:=blk_lt hA;omega
  have HS:=fun w0 (hb:Below w.heap.size w w0)=>sentinel_any (S.below hb) hg
  have HP:=fun w0=>ref_placed w0 (numS g) i (by unfold numS;split<;> decide)
  have as1:=fun v w0=>as_at_yes v w0
  have tt:(!true)=false:=rfl
  have a0:W.cell? ⟨k2,0,none⟩=some (.int .i64 i):=(cell_blk hA1 _).trans rfl
  have a1:W.cell? ⟨k2,1,none⟩=some (sv A g):=(cell_blk hA1 _).trans rfl
  unfold sv at HS a1
  unfold faultV at HP
  have hdr:=below_drew' hb0
  go_enter Tryz.func59,Tryz.ntmps59
  go_upto_region 1 with fail
  rw [<-hW]
  simp only [<-hk]
  replace hk:=Lib.hid hk
  clear hW
  go_upto_region 8 with fail
  go_region_held3 (fun w'=>w'.cell? ⟨k2,0,none⟩=some (.int .i64 i)/\w'.cell? ⟨k2,1,none⟩=some (.iface 205 (.pointer (some (A g))))) (first|(refine⟨?_,?_⟩<;> assumption)|(refine⟨?_,?_⟩<;> (rw [World.cell?_setCell_far _ _ _ _ hkk,World.cell?_setCell_far _ _ _ _ hkk,World.cell?_setCell_far _ _ _ _ hkk];assumption))) (first
   |(go_at_call 90;refine (HS _ hdr).mono ?_;rintro e w1 ⟨rfl,hb1⟩;have hb2:=hdr.trans (lower_below hb1 hdr.size);have R1:=below_blk hb1 (show W.drew.heap[k]?=_ from R0) (blk_lt R0);have b0:=cell_since hb1 (show W.drew.cell? _=_ from a0);have b1:=cell_since hb1 (show W.drew.cell? _=_ from a1))
   |(go_at_call 51;refine (HP _).mono ?_;rintro e w2 ⟨rfl,hb3⟩;have R2:=below_blk hb3 R1 (blk_lt R1);have hb4:=hb2.trans (lower_below hb3 hb2.size);have f0:=frozen_blk R2 0;have f1:=frozen_blk R2 1;have f2:=frozen_blk R2 2;have s0:w2.cell? ⟨k,0,none⟩=some (.int .i64 0):=(cell_blk R2 _).trans rfl;have s1:w2.cell? ⟨k,1,none⟩=some (.bool false):=(cell_blk R2 _).trans rfl;have s2:w2.cell? ⟨k,2,none⟩=some (.int .i64 0):=(cell_blk R2 _).trans rfl;have d0:=cell_since hb3 b0;have d1:=cell_since hb3 b1))
  refine gen_world (Q:=fun W=>Exit.then _ _ _ _ W) _ (fun W=>W.heap[k]?=some (.cells #[.int .i64 (Al.Fault.at_ (numS g) i).code,.bool (Al.Fault.at_ (numS g) i).placed,.int .i64 (Al.Fault.at_ (numS g) i).pos] 36 (0,0))/\Below w.heap.size w W) ⟨set3 R2 _ _ _,below_set3 hb4 (by have:=show k=w.heap.size from hk;omega)⟩ ?_
  rintro W9 ⟨b9,hb9⟩
  have z0:W9.cell? ⟨k,0,none⟩=some (.int .i64 (Al.Fault.at_ (numS g) i).code):=(cell_blk b9 _).trans rfl
  have z1:W9.cell? ⟨k,1,none⟩=some (.bool (Al.Fault.at_ (numS g) i).placed):=(cell_blk b9 _).trans rfl
  have z2:W9.cell? ⟨k,2,none⟩=some (.int .i64 (Al.Fault.at_ (numS g) i).pos):=(cell_blk b9 _).trans rfl
  go_wp2_with fail
  exact bodyPost_ret (v:=faultV (Al.Fault.at_ (numS g) i)) (by simp [results,Tryz.results59,go_sem,z0,z1,z2,faultV]) rfl ⟨rfl,hb9⟩
theorem see_same {w:World}{A:Nat->Addr}(S:Sent w A){f:Al.Fault}{v:Value}(h:ErrAt w A f v)(hv:v.oneCell'=true)(g:Al.Fault):
  Calls Tryz.prog 23 #[v,faultV g] w fun e w'=>e= .returned (.bool (decide (f=g)))/\Below w.heap.size w w':=by
 obtain⟨W,hW⟩:∃ W,W=w.alloc (.cells #[.int .i64 g.code,.bool g.placed,.int .i64 g.pos] 36):=⟨_,rfl⟩
 have hb0:Below w.heap.size w W:=by rw [hW];exact (Below.refl _ _).alloc (Nat.le_refl _) _
 obtain⟨k,hk⟩:∃ k,k=w.heap.size:=⟨_,rfl⟩
 have R0:W.heap[k]?=some (.cells #[.int .i64 g.code,.bool g.placed,.int .i64 g.pos] 36 (0,0)):=by rw [hW,hk];exact heap_alloc_new w _
 have a0:W.cell? ⟨k,0,none⟩=some (.int .i64 g.code):=(cell_blk R0 _).trans rfl
 have a1:W.cell? ⟨k,1,none⟩=some (.bool g.placed):=(cell_blk R0 _).trans rfl
 have a2:W.cell? ⟨k,2,none⟩=some (.int .i64 g.pos):=(cell_blk R0 _).trans rfl
 have hdr:=below_drew' hb0
 have HF:=fun w0 (hb:Below w.heap.size w w0)=>see_fault (S.below hb) (h.below hb)
 have HS:=fun w0=>same_fault w0 f g
 unfold faultV at HF HS ⊢
 go_enter Tryz.func23,Tryz.ntmps23
 go_upto_region 1 with fail
 rw [<-hW]
 simp only [<-hk]
 replace hk:=Lib.hid hk
 clear hW
 go_region_held3 (fun w'=>w'.cell? ⟨k,0,none⟩=some (.int .i64 g.code)/\w'.cell? ⟨k,1,none⟩=some (.bool g.placed)/\w'.cell? ⟨k,2,none⟩=some (.int .i64 g.pos)) (refine⟨?_,?_,?_⟩<;> assumption) (first
  |(go_at_call 59;refine (HF _ hdr).mono ?_;rintro e w1 ⟨rfl,hb1⟩;have hb2:=hdr.trans (lower_below hb1 hdr.size);have b0:=cell_since hb1 (show W.drew.cell? _=_ from a0);have b1:=cell_since hb1 (show W.drew.cell? _=_ from a1);have b2:=cell_since hb1 (show W.drew.cell? _=_ from a2))
  |(go_at_call 58;refine (HS _).mono ?_;rintro e w2 ⟨rfl,hb3⟩;have hb4:=hb2.trans (lower_below hb3 hb2.size);have d0:=cell_since hb3 b0;have d1:=cell_since hb3 b1;have d2:=cell_since hb3 b2))
 all_goals go_wp2_with fail
 all_goals exact bodyPost_ret (v:= .bool (decide (f=g))) (by simp [results,Tryz.results23,go_sem]) rfl ⟨rfl,hb4⟩
theorem see_is {w:World}{A:Nat->Addr}(S:Sent w A){f:Al.Fault}{v:Value}(h:ErrAt w A f v)(hv:v.oneCell'=true)(c:Int):
  Calls Tryz.prog 29 #[v,.int .i64 c] w fun e w'=>e= .returned (.bool (decide (f= .bare c)))/\Below w.heap.size w w':=by
 have HB:=ref_bare w c
 have HS:=fun w0 (hb:Below w.heap.size w w0)=>see_same (S.below hb) (h.below hb) hv (.bare c)
 go_enter Tryz.func29,Tryz.ntmps29
 go_wp2_with (first|(go_at_call 53;refine HB.mono ?_;rintro e w1 ⟨rfl,hb1⟩)|(go_at_call 23;refine (HS _ hb1).mono ?_;rintro e w2 ⟨rfl,hb2⟩;have hb3:=hb1.trans (lower_below hb2 hb1.size)))
 exact bodyPost_ret (v:= .bool (decide (f= .bare c))) (by simp [results,Tryz.results29,go_sem]) rfl ⟨rfl,hb3⟩
theorem valid_no {w:World}{A:Nat->Addr}(S:Sent w A)(q n:Int)(h:Al.ringOk q n=false):Calls Tryz.prog 61 #[.agg #[.int .i64 q,.int .i64 n]] w fun e w'=>e= .returned (sv A 0)/\Below w.heap.size w w':=by
 have e0:(w.alloc (.cells #[.int .i64 q,.int .i64 n] 23)).cell? ⟨w.heap.size,0,none⟩=some (.int .i64 q):=by rw [cell_blk (heap_alloc_new w _)];rfl
 have e1:(w.alloc (.cells #[.int .i64 q,.int .i64 n] 23)).cell? ⟨w.heap.size,1,none⟩=some (.int .i64 n):=by rw [cell_blk (heap_alloc_new w _)];rfl
 have eb:Below w.heap.size w (w.alloc (.cells #[.int .i64 q,.int .i64 n] 23)):=(Below.refl _ _).alloc (Nat.le_refl _) _
 have g0:=(S.below eb).cell 0 (by decide)
 unfold sv
 by_cases hn:Al.isSize n=true
 ·have hq:Al.isPrime q=false:=by
   unfold Al.ringOk at h
   rw [hn,Bool.and_true] at h
   exact h
  simp only [Al.isSize,Bool.or_eq_true,beq_iff_eq] at hn
  clear h
  rcases hn with (((((h|h)|h)|h)|h)|h)|h<;>
  ·subst h
   go_enter Tryz.func61,Tryz.ntmps61
   go_wp2_with (first|(go_at_call 93;refine (is_no _ q hq).mono ?_;rintro e w2 ⟨rfl,rfl⟩))
   exact bodyPost_ret (v:= .iface 205 (.pointer (some (A 0)))) (by simp [results,Tryz.results61,go_sem]) rfl ⟨rfl,eb⟩
 ·replace hn:Al.isSize n=false:=by simpa using hn
  simp only [Al.isSize,Bool.or_eq_false_iff] at hn
  obtain⟨⟨⟨⟨⟨⟨h1,h2⟩,h3⟩,h4⟩,h5⟩,h6⟩,h7⟩:=hn
  clear h
  go_enter Tryz.func61,Tryz.ntmps61
  go_wp2_with fail
  exact bodyPost_ret (v:= .iface 205 (.pointer (some (A 0)))) (by simp [results,Tryz.results61,go_sem]) rfl ⟨rfl,eb⟩
theorem src_number_no (w:World)(q n:Int)(s:Al.Stmt)(x6 x7:Value)(hq:0<=q/\q<8388608)(h:Al.numOk q s=false):Calls Tryz.prog 146 #[.agg #[.int .i64 q,.int .i64 n],.agg (stmtV s x6 x7)] w fun e w'=>e= .returned (.bool false)/\Below w.heap.size w w':=by
 have hb:=alloc_two w (.cells #[.int .i64 q,.int .i64 n] 23) (.cells (stmtV s x6 x7) 66)
 unfold stmtV at hb
 unfold Al.numOk at h
 cases s with|mk op d a b c k body els=>
 dsimp only at h hb
 by_cases h6:op=6
 ·subst h6
  simp at h
  by_cases h0:0<=k
  ·have t0:decide (0<=k)=true:=decide_eq_true h0
   have t1:decide (k<q)=false:=decide_eq_false (by omega)
   clear h h0
   unfold stmtV
   go_enter Tryz.func146,Tryz.ntmps146
   go_wp2_with fail
   exact bodyPost_ret (v:= .bool false) (by simp [results,Tryz.results146,go_sem, *]) rfl ⟨rfl,by first|exact hb|exact Go.Proofs.YtkplfaionpplaaaGreatDoorW.PrintWords.pw_below_drewN hb _⟩
  ·have t0:decide (0<=k)=false:=decide_eq_false h0
   clear h h0
   unfold stmtV
   go_enter Tryz.func146,Tryz.ntmps146
   go_wp2_with fail
   exact bodyPost_ret (v:= .bool false) (by simp [results,Tryz.results146,go_sem, *]) rfl ⟨rfl,by first|exact hb|exact Go.Proofs.YtkplfaionpplaaaGreatDoorW.PrintWords.pw_below_drewN hb _⟩
 by_cases h11:op=11
 ·subst h11
  simp at h
  by_cases h0:0<=k
  ·have t0:decide (0<=k)=true:=decide_eq_true h0
   have t1:decide (k<=q)=false:=decide_eq_false (by omega)
   clear h h0
   unfold stmtV
   go_enter Tryz.func146,Tryz.ntmps146
   go_wp2_with fail
   exact bodyPost_ret (v:= .bool false) (by simp [results,Tryz.results146,go_sem, *]) rfl ⟨rfl,by first|exact hb|exact Go.Proofs.YtkplfaionpplaaaGreatDoorW.PrintWords.pw_below_drewN hb _⟩
  ·have t0:decide (0<=k)=false:=decide_eq_false h0
   clear h h0
   unfold stmtV
   go_enter Tryz.func146,Tryz.ntmps146
   go_wp2_with fail
   exact bodyPost_ret (v:= .bool false) (by simp [results,Tryz.results146,go_sem, *]) rfl ⟨rfl,by first|exact hb|exact Go.Proofs.YtkplfaionpplaaaGreatDoorW.PrintWords.pw_below_drewN hb _⟩
 by_cases h15:op=15
 ·subst h15
  simp at h
  by_cases h0:1<=k
  ·have t0:decide (1<=k)=true:=decide_eq_true h0
   have t1:decide (k<=50)=false:=decide_eq_false (by omega)
   clear h h0
   unfold stmtV
   go_enter Tryz.func146,Tryz.ntmps146
   go_wp2_with fail
   exact bodyPost_ret (v:= .bool false) (by simp [results,Tryz.results146,go_sem, *]) rfl ⟨rfl,by first|exact hb|exact Go.Proofs.YtkplfaionpplaaaGreatDoorW.PrintWords.pw_below_drewN hb _⟩
  ·have t0:decide (1<=k)=false:=decide_eq_false h0
   clear h h0
   unfold stmtV
   go_enter Tryz.func146,Tryz.ntmps146
   go_wp2_with fail
   exact bodyPost_ret (v:= .bool false) (by simp [results,Tryz.results146,go_sem, *]) rfl ⟨rfl,by first|exact hb|exact Go.Proofs.YtkplfaionpplaaaGreatDoorW.PrintWords.pw_below_drewN hb _⟩
 by_cases h16:op=16
 ·subst h16
  simp at h
  by_cases h0:1<=k
  ·have t0:decide (1<=k)=true:=decide_eq_true h0
   have t1:decide (k<=50)=false:=decide_eq_false (by omega)
   clear h h0
   unfold stmtV
   go_enter Tryz.func146,Tryz.ntmps146
   go_wp2_with fail
   exact bodyPost_ret (v:= .bool false) (by simp [results,Tryz.results146,go_sem, *]) rfl ⟨rfl,by first|exact hb|exact Go.Proofs.YtkplfaionpplaaaGreatDoorW.PrintWords.pw_below_drewN hb _⟩
  ·have t0:decide (1<=k)=false:=decide_eq_false h0
   clear h h0
   unfold stmtV
   go_enter Tryz.func146,Tryz.ntmps146
   go_wp2_with fail
   exact bodyPost_ret (v:= .bool false) (by simp [results,Tryz.results146,go_sem, *]) rfl ⟨rfl,by first|exact hb|exact Go.Proofs.YtkplfaionpplaaaGreatDoorW.PrintWords.pw_below_drewN hb _⟩
 by_cases h8:op=8
 ·subst h8
  simp at h
  by_cases h0:1<=k
  ·have t0:decide (1<=k)=true:=decide_eq_true h0
   by_cases h1:k<=30
   ·have hk:((k.toNat:Nat):Int)=k:=by omega
    have t1:decide (k<=30)=true:=decide_eq_true h1
    have h2:=h h0 h1
    have t2:decide ((2:Int) ^ k.toNat<q)=false:=decide_eq_false (by omega)
    have t3:¬k<0:=by omega
    have t5:min k.toNat 64=k.toNat:=by omega
    have t6:q<=2 ^ k.toNat:=by omega
    have hp:(2:Nat) ^ k.toNat<=2 ^ 30:=Nat.pow_le_pow_right (by decide) (by omega)
    have hp2:((2:Int) ^ k.toNat)=((2 ^ k.toNat:Nat):Int):=by simp
    have t4:wrap64 (2 ^ k.toNat)=2 ^ k.toNat:=by have:=one_le_pow2 k.toNat;rw [hp2] at this ⊢;unfold wrap64;omega
    clear h h0 h1 h2 hp hp2
    unfold stmtV
    go_enter Tryz.func146,Tryz.ntmps146
    go_wp2_with fail
    go_big_quiet (fail)
    go_wp2_with fail
    exact bodyPost_ret (v:= .bool false) (by simp [results,Tryz.results146,go_sem, *]) rfl ⟨rfl,by first|exact hb|exact Go.Proofs.YtkplfaionpplaaaGreatDoorW.PrintWords.pw_below_drewN hb _⟩
   ·have t1:decide (k<=30)=false:=decide_eq_false h1
    clear h h0 h1
    unfold stmtV
    go_enter Tryz.func146,Tryz.ntmps146
    go_wp2_with fail
    go_big_quiet (fail)
    go_wp2_with fail
    exact bodyPost_ret (v:= .bool false) (by simp [results,Tryz.results146,go_sem, *]) rfl ⟨rfl,by first|exact hb|exact Go.Proofs.YtkplfaionpplaaaGreatDoorW.PrintWords.pw_below_drewN hb _⟩
  ·have t0:decide (1<=k)=false:=decide_eq_false h0
   clear h h0
   unfold stmtV
   go_enter Tryz.func146,Tryz.ntmps146
   go_wp2_with fail
   go_big_quiet (fail)
   go_wp2_with fail
   exact bodyPost_ret (v:= .bool false) (by simp [results,Tryz.results146,go_sem, *]) rfl ⟨rfl,by first|exact hb|exact Go.Proofs.YtkplfaionpplaaaGreatDoorW.PrintWords.pw_below_drewN hb _⟩
 by_cases h9:op=9
 ·subst h9
  simp at h
  by_cases h0:1<=k
  ·have t0:decide (1<=k)=true:=decide_eq_true h0
   by_cases h1:k<=30
   ·have hk:((k.toNat:Nat):Int)=k:=by omega
    have t1:decide (k<=30)=true:=decide_eq_true h1
    have h2:=h h0 h1
    have t2:decide ((2:Int) ^ k.toNat<q)=false:=decide_eq_false (by omega)
    have t3:¬k<0:=by omega
    have t5:min k.toNat 64=k.toNat:=by omega
    have t6:q<=2 ^ k.toNat:=by omega
    have hp:(2:Nat) ^ k.toNat<=2 ^ 30:=Nat.pow_le_pow_right (by decide) (by omega)
    have hp2:((2:Int) ^ k.toNat)=((2 ^ k.toNat:Nat):Int):=by simp
    have t4:wrap64 (2 ^ k.toNat)=2 ^ k.toNat:=by have:=one_le_pow2 k.toNat;rw [hp2] at this ⊢;unfold wrap64;omega
    clear h h0 h1 h2 hp hp2
    unfold stmtV
    go_enter Tryz.func146,Tryz.ntmps146
    go_wp2_with fail
    go_big_quiet (fail)
    go_wp2_with fail
    exact bodyPost_ret (v:= .bool false) (by simp [results,Tryz.results146,go_sem, *]) rfl ⟨rfl,by first|exact hb|exact Go.Proofs.YtkplfaionpplaaaGreatDoorW.PrintWords.pw_below_drewN hb _⟩
   ·have t1:decide (k<=30)=false:=decide_eq_false h1
    clear h h0 h1
    unfold stmtV
    go_enter Tryz.func146,Tryz.ntmps146
    go_wp2_with fail
    go_big_quiet (fail)
    go_wp2_with fail
    exact bodyPost_ret (v:= .bool false) (by simp [results,Tryz.results146,go_sem, *]) rfl ⟨rfl,by first|exact hb|exact Go.Proofs.YtkplfaionpplaaaGreatDoorW.PrintWords.pw_below_drewN hb _⟩
  ·have t0:decide (1<=k)=false:=decide_eq_false h0
   clear h h0
   unfold stmtV
   go_enter Tryz.func146,Tryz.ntmps146
   go_wp2_with fail
   go_big_quiet (fail)
   go_wp2_with fail
   exact bodyPost_ret (v:= .bool false) (by simp [results,Tryz.results146,go_sem, *]) rfl ⟨rfl,by first|exact hb|exact Go.Proofs.YtkplfaionpplaaaGreatDoorW.PrintWords.pw_below_drewN hb _⟩
 rw [if_neg h6,if_neg (by omega),if_neg h11,if_neg (by omega)] at h
 cases h
end Go.Proofs.YtkplfaionpplaaaGreatDoor
namespace Go.Proofs.YtkplfaionpplaaaGreatDoor
open Go.RowKit
theorem src_of_no (w:World)(op:Int)(hg:Al.hasOf op=none):Calls Tryz.prog 142 #[.int .i64 op] w fun e w'=>∃ word,e= .returned (.tuple #[formV (.string word) ⟨false,false,false,false,false,false,false⟩,.bool false])/\Below w.heap.size w w':=by
 have h:op<1\/17<=op:=by
  refine Decidable.byContradiction fun hn=>?_
  unfold Al.hasOf at hg
  have h16:op=1\/op=2\/op=3\/op=4\/op=5\/op=6\/op=7\/op=8\/op=9\/op=10\/op=11\/op=12\/op=13\/op=14\/op=15\/op=16:=by omega
  rcases h16 with h|h|h|h|h|h|h|h|h|h|h|h|h|h|h|h<;> subst h<;> cases hg
 go_enter Tryz.func142,Tryz.ntmps142
 go_upto_region 1 with fail
 go_cut [4] from 5 to 21 (fun v4 wc=>v4= .slice (some ⟨w.heap.size+1,0,none⟩) 17 17/\wc.heap[w.heap.size]?=some (.cells zeroForm 192 (0,0))/\wc.heap[w.heap.size+1]?=some (.cells tableV 192 (0,0))/\Below w.heap.size w wc)
 case first=>
  go_wp2_with fail
  go_meet
  exact⟨rfl,alloc_blk _ (heap_alloc_new w _),alloc_at w _ _,alloc_two w _ _⟩
 case rest=>
  obtain⟨rfl,h0,h1,hb⟩:=hcut
  unfold zeroForm at h0
  have z0:wc.cell? ⟨w.heap.size,0,none⟩=some (.string ⟨#[]⟩):=(cell_blk h0 _).trans rfl
  have y0:=frozen_blk h0 0
  have z1:wc.cell? ⟨w.heap.size,1,none⟩=some (.bool false):=(cell_blk h0 _).trans rfl
  have y1:=frozen_blk h0 1
  have z2:wc.cell? ⟨w.heap.size,2,none⟩=some (.bool false):=(cell_blk h0 _).trans rfl
  have y2:=frozen_blk h0 2
  have z3:wc.cell? ⟨w.heap.size,3,none⟩=some (.bool false):=(cell_blk h0 _).trans rfl
  have y3:=frozen_blk h0 3
  have z4:wc.cell? ⟨w.heap.size,4,none⟩=some (.bool false):=(cell_blk h0 _).trans rfl
  have y4:=frozen_blk h0 4
  have z5:wc.cell? ⟨w.heap.size,5,none⟩=some (.bool false):=(cell_blk h0 _).trans rfl
  have y5:=frozen_blk h0 5
  have z6:wc.cell? ⟨w.heap.size,6,none⟩=some (.bool false):=(cell_blk h0 _).trans rfl
  have y6:=frozen_blk h0 6
  have z7:wc.cell? ⟨w.heap.size,7,none⟩=some (.bool false):=(cell_blk h0 _).trans rfl
  have y7:=frozen_blk h0 7
  clear h1
  by_cases h5:op<1
  ·have t1:decide (op<1)=true:=decide_eq_true h5
   clear h h5 hg
   go_wp2_with fail
   refine gen_world (Q:=fun W=>bodyPost _ _ _ _ _ W) _ (fun W=>W.heap[w.heap.size]?=some (.cells #[.string ⟨#[110,111,110,101]⟩,.bool false,.bool false,.bool false,.bool false,.bool false,.bool false,.bool false] 192 (0,0))/\Below w.heap.size w W) ⟨set8 h0 _ _ _ _ _ _ _ _,below_set (below_set (below_set (below_set (below_set (below_set (below_set (below_set hb (Nat.le_refl _)) (Nat.le_refl _)) (Nat.le_refl _)) (Nat.le_refl _)) (Nat.le_refl _)) (Nat.le_refl _)) (Nat.le_refl _)) (Nat.le_refl _)⟩ ?_
   rintro W ⟨hq,hb2⟩
   have q0:W.cell? ⟨w.heap.size,0,none⟩=some (.string ⟨#[110,111,110,101]⟩):=(cell_blk hq _).trans rfl
   have q1:W.cell? ⟨w.heap.size,1,none⟩=some (.bool false):=(cell_blk hq _).trans rfl
   have q2:W.cell? ⟨w.heap.size,2,none⟩=some (.bool false):=(cell_blk hq _).trans rfl
   have q3:W.cell? ⟨w.heap.size,3,none⟩=some (.bool false):=(cell_blk hq _).trans rfl
   have q4:W.cell? ⟨w.heap.size,4,none⟩=some (.bool false):=(cell_blk hq _).trans rfl
   have q5:W.cell? ⟨w.heap.size,5,none⟩=some (.bool false):=(cell_blk hq _).trans rfl
   have q6:W.cell? ⟨w.heap.size,6,none⟩=some (.bool false):=(cell_blk hq _).trans rfl
   have q7:W.cell? ⟨w.heap.size,7,none⟩=some (.bool false):=(cell_blk hq _).trans rfl
   exact bodyPost_ret (v:= .tuple #[.agg #[.string ⟨#[110,111,110,101]⟩,.bool false,.bool false,.bool false,.bool false,.bool false,.bool false,.bool false],.bool false]) (by simp [results,Tryz.results142,go_sem,q0,q1,q2,q3,q4,q5,q6,q7]) rfl ⟨_,rfl,hb2⟩
  ·have t1:decide (op<1)=false:=decide_eq_false h5
   have t2:decide (17<=op)=true:=decide_eq_true (by omega)
   clear h h5 hg
   go_wp2_with fail
   refine gen_world (Q:=fun W=>bodyPost _ _ _ _ _ W) _ (fun W=>W.heap[w.heap.size]?=some (.cells #[.string ⟨#[110,111,110,101]⟩,.bool false,.bool false,.bool false,.bool false,.bool false,.bool false,.bool false] 192 (0,0))/\Below w.heap.size w W) ⟨set8 h0 _ _ _ _ _ _ _ _,below_set (below_set (below_set (below_set (below_set (below_set (below_set (below_set hb (Nat.le_refl _)) (Nat.le_refl _)) (Nat.le_refl _)) (Nat.le_refl _)) (Nat.le_refl _)) (Nat.le_refl _)) (Nat.le_refl _)) (Nat.le_refl _)⟩ ?_
   rintro W ⟨hq,hb2⟩
   have q0:W.cell? ⟨w.heap.size,0,none⟩=some (.string ⟨#[110,111,110,101]⟩):=(cell_blk hq _).trans rfl
   have q1:W.cell? ⟨w.heap.size,1,none⟩=some (.bool false):=(cell_blk hq _).trans rfl
   have q2:W.cell? ⟨w.heap.size,2,none⟩=some (.bool false):=(cell_blk hq _).trans rfl
   have q3:W.cell? ⟨w.heap.size,3,none⟩=some (.bool false):=(cell_blk hq _).trans rfl
   have q4:W.cell? ⟨w.heap.size,4,none⟩=some (.bool false):=(cell_blk hq _).trans rfl
   have q5:W.cell? ⟨w.heap.size,5,none⟩=some (.bool false):=(cell_blk hq _).trans rfl
   have q6:W.cell? ⟨w.heap.size,6,none⟩=some (.bool false):=(cell_blk hq _).trans rfl
   have q7:W.cell? ⟨w.heap.size,7,none⟩=some (.bool false):=(cell_blk hq _).trans rfl
   exact bodyPost_ret (v:= .tuple #[.agg #[.string ⟨#[110,111,110,101]⟩,.bool false,.bool false,.bool false,.bool false,.bool false,.bool false,.bool false],.bool false]) (by simp [results,Tryz.results142,go_sem,q0,q1,q2,q3,q4,q5,q6,q7]) rfl ⟨_,rfl,hb2⟩
end Go.Proofs.YtkplfaionpplaaaGreatDoor
