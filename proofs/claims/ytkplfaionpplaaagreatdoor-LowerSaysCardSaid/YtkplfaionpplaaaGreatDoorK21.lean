/- Part 21: B103, B104, B105. -/
import Derived.Test.YtkplfaionpplaaaGreatDoorK20
set_option maxRecDepth 100000
set_option maxHeartbeats 6400000
set_option linter.unusedVariables false
set_option linter.unusedSimpArgs false
namespace Go.Proofs.YtkplfaionpplaaaGreatDoor
open Go.RowKit Go.Proofs.YtkplfaionpplaaaGreatDoorW.PrintWords
theorem src_kinds {w:World}{q n:Int}{vars:List Al.Var}{Va:Option Addr}{vc:Nat}(xb:Value)(hxb:xb.oneCell'=true)(hv:kVar.C w Va vars.length vars)(hvl:vars.length<=1000)(k:Int):
  Calls Tryz.prog 57 #[.agg #[.int .i64 q,.int .i64 n,.slice Va vars.length vc,xb],.int .i64 k] w fun e w'=>∃ v,e= .returned v/\w'.ownsRow w.heap.size 3 1 v (Al.kindsOf vars k).length (intsV (Al.kindsOf vars k))/\Below w.heap.size w w':=by
 obtain⟨W,hW⟩:∃ W,W=w.alloc (.cells #[.int .i64 q,.int .i64 n,.slice Va vars.length vc,xb] 27):=⟨_,rfl⟩
 have hb0:Below w.heap.size w W:=by rw [hW];exact (Below.refl _ _).alloc (Nat.le_refl _) _
 have h0:W.heap[w.heap.size]?=some (.cells #[.int .i64 q,.int .i64 n,.slice Va vars.length vc,xb] 27 (0,0)):=by rw [hW];exact heap_alloc_new w _
 have p2:W.cell? ⟨w.heap.size,2,none⟩=some (.slice Va vars.length vc):=(cell_blk h0 _).trans rfl
 obtain⟨j0,hj0,jz0,jz1,jz2⟩:=info_parts Tryz.infoInt
 obtain⟨K,hK⟩:∃ K,K=Al.kindsOf vars k:=⟨_,rfl⟩
 rw [<-hK]
 replace hK:=Lib.hid hK
 have HV:=Lib.hid hv
 have HB0:=Lib.hid hb0
 go_enter Tryz.func57,Tryz.ntmps57
 go_upto_region 2 with (fail)
 rw [<-hW]
 clear hW hv h0 hb0
 go_wp2_with fail
 clear p2
 go_loopg [5,6,7,11] (vars.length+1) (fun gk v5 v6 v7 v11 w'=>∃ i:Nat,v11= .int .i64 i/\i+gk=vars.length+1/\i<=vars.length/\Hid (w'.ownsRow w.heap.size 3 1 v5 (Al.kindsFrom (vars.take i) k 0).length (intsV (Al.kindsFrom (vars.take i) k 0))/\Below w.heap.size w w'))
 case atStart=>exact⟨0,rfl,by omega,by omega,show _/\_ from⟨World.ownsRow_nil _ _ _ _,HB0⟩⟩
 case round=>
  obtain⟨i,rfl,hg,hi2,HR⟩:=hrel
  obtain⟨hown,hR⟩:=show wr.ownsRow w.heap.size 3 1 u5 (Al.kindsFrom (vars.take i) k 0).length (intsV (Al.kindsFrom (vars.take i) k 0))/\Below w.heap.size w wr from HR
  by_cases hil:i<vars.length
  ·obtain⟨k1,rfl⟩:∃ k1,gk=k1+1:=⟨gk - 1,by omega⟩
   obtain⟨ad,hVa,d0,d1⟩:=at_T901 (show kVar.C w Va vars.length vars from HV) (i:Int) (by omega) (by omega)
   replace d0:=cell_since hR d0
   replace d1:=cell_since hR d1
   subst hVa
   simp only [Int.toNat_natCast] at d0 d1
   obtain⟨x,hx⟩:∃ x,x=(rd_T901 vars (i:Int)).kind:=⟨_,rfl⟩
   obtain⟨y,hy⟩:∃ y,y=(rd_T901 vars (i:Int)).secret:=⟨_,rfl⟩
   rw [<-hx] at d0
   rw [<-hy] at d1
   have hnx:Al.kindsFrom (vars.take (i+1)) k 0=Al.kindsFrom (vars.take i) k 0++(if x=k then [(i:Int)] else []):=by
    rw [List.take_succ_eq_append_getElem hil,kindsFrom_snoc,List.length_take,Nat.min_eq_left (by omega),hx,rd_var vars i hil];simp
   replace hx:=Lib.hid hx
   replace hy:=Lib.hid hy
   have hkl:(Al.kindsFrom (vars.take i) k 0).length<=1000:=by have:=kindsFrom_len (vars.take i) k 0;have:=List.length_take_le i vars;omega
   have r0:(0:Int)<=(i:Int):=by omega
   have r1:(i:Int)<(vars.length:Int):=by omega
   have r2:decide ((i:Int)<(vars.length:Int))=true:=decide_eq_true r1
   clear HR
   by_cases hxk:x=k
   ·have z:(x == k)=true:=by rw [hxk];exact beq_self_eq_true _
    have z':decide (x=k)=true:=decide_eq_true hxk
    rw [if_pos hxk] at hnx
    clear hxk
    obtain⟨L,hL⟩:∃ L,L=Al.kindsFrom (vars.take i) k 0:=⟨_,rfl⟩
    rw [<-hL] at hown hnx hkl
    replace hL:=Lib.hid hL
    replace hnx:=Lib.hid hnx
    have own1:=(hown.alloc (.cells #[.int .i64 x,.bool y] 81)).alloc (.cells #[.int .i64 i] 3)
    have src1:((wr.alloc (.cells #[.int .i64 x,.bool y] 81)).alloc (.cells #[.int .i64 i] 3)).ownsRow w.heap.size 3 1 (.slice (some ⟨wr.heap.size+1,0,none⟩) 1 1) 1 [.int .i64 i]:=by
     have:=row_one (wr.alloc (.cells #[.int .i64 x,.bool y] 81)) (base:=w.heap.size) (by have:=hR.size;simp;omega) (.int .i64 i) 3
     rwa [show (wr.alloc (.cells #[.int .i64 x,.bool y] 81)).heap.size=wr.heap.size+1 by simp] at this
    have bl1:Below w.heap.size w ((wr.alloc (.cells #[.int .i64 x,.bool y] 81)).alloc (.cells #[.int .i64 i] 3)):=(hR.alloc hR.size _).alloc (by have:=hR.size;simp;omega) _
    go_wp2_with (first
     |(at_builtin;refine append_row rfl (.tmp 20) (.tmp 22) 86 rfl w.heap.size 3 j0 _ 1 8 Tryz.underlying86 hj0 jz0 jz1 jz2 rfl (by omega) _ _ _ rfl own1 w.heap.size _ _ _ rfl src1 (by intro u hu;rw [List.mem_singleton.1 hu];rfl) (by unfold maxLen;omega) (by omega) (by have:=hR.size;simp;omega) ?_;intro v1 w1 hown1 hgrow1;have hb1:=below_grown2 bl1 hgrow1 (fun k hk=>(own1.lt k hk).1) (by have:=hR.size;simp;omega)))
    have HN:Hid (w1.ownsRow w.heap.size 3 1 v1 (Al.kindsFrom (vars.take (i+1)) k 0).length (intsV (Al.kindsFrom (vars.take (i+1)) k 0))/\Below w.heap.size w w1):=by
     refine show _/\_ from⟨?_,hb1⟩
     rw [show Al.kindsFrom (vars.take (i+1)) k 0=_ from hnx]
     simpa [intsV] using hown1
    clear hown1 hgrow1 hb1 own1 src1 bl1 hown
    go_roundg k1
    case measure=>omega
    case rel=>exact⟨i+1,by simp,by omega,by omega,HN⟩
   ·have z:(x == k)=false:=beq_false_of_ne hxk
    have z':decide (x=k)=false:=decide_eq_false hxk
    rw [if_neg hxk,List.append_nil] at hnx
    have HN:∀ o,Hid ((wr.alloc o).ownsRow w.heap.size 3 1 u5 (Al.kindsFrom (vars.take (i+1)) k 0).length (intsV (Al.kindsFrom (vars.take (i+1)) k 0))/\Below w.heap.size w (wr.alloc o)):=fun o=>by rw [hnx];exact⟨hown.alloc o,hR.alloc hR.size o⟩
    clear hxk hnx hown
    go_wp2_with fail
    go_roundg k1
    case measure=>omega
    case rel=>exact⟨i+1,by simp,by omega,by omega,HN _⟩
  ·have hie:i=vars.length:=by omega
   have t1:decide ((i:Int)<(vars.length:Int))=false:=by simp;omega
   rw [show vars.take i=vars by rw [hie,List.take_length]] at hown
   have hKv:K=Al.kindsFrom vars k 0:=hK
   rw [<-hKv] at hown
   clear hKv HR
   go_wp2_with fail
   exact bodyPost_ret (v:=u5) (by simp [results,Tryz.results57,go_sem]) rfl ⟨_,rfl,hown,hR⟩
theorem eV0 (A:Nat->Addr):eV A 0=Value.nilIface:=rfl
theorem ring_vector {w:World}{A:Nat->Addr}(S:Sent w A){q n:Int}{l:List Int}{Al_:Option Addr}{cap:Nat}(hl:(Kd.int .i64).C w Al_ l.length l):
  Calls Tryz.prog 89 #[.agg #[.int .i64 q,.int .i64 n],.slice Al_ l.length cap] w fun e w'=>e= .returned (eV A (Al.vectorF q n l))/\Below w.heap.size w w':=by
 obtain⟨R,hR⟩:∃ R,R=Al.vectorF q n l:=⟨_,rfl⟩
 rw [<-hR]
 obtain⟨W,hW⟩:∃ W,W=w.alloc (.cells #[.int .i64 q,.int .i64 n] 23):=⟨_,rfl⟩
 have hb0:Below w.heap.size w W:=by rw [hW];exact (Below.refl _ _).alloc (Nat.le_refl _) _
 obtain⟨kp,hkp⟩:∃ kp,kp=w.heap.size:=⟨_,rfl⟩
 have h0:W.heap[kp]?=some (.cells #[.int .i64 q,.int .i64 n] 23 (0,0)):=by rw [hW,hkp];exact heap_alloc_new w _
 have hkl:=blk_lt h0
 have HL:=Lib.hid hl
 clear hl
 go_enter Tryz.func89,Tryz.ntmps89
 go_wp2_with fail
 rw [<-hW]
 simp only [<-hkp]
 replace hkp:=Lib.hid hkp
 clear hW
 cases hro:Al.ringOk q n with
 |false=>
  have HV:=valid_no (S.below hb0) q n hro
  unfold sv at HV
  have hRv:=Lib.hid (show R=101 by rw [hR];unfold Al.vectorF;rw [hro];rfl)
  clear hR
  go_wp2_with (first|(go_at_call 61;refine HV.mono ?_;rintro e w1 ⟨rfl,hb1⟩))
  exact bodyPost_ret (v:= .iface 205 (.pointer (some (A 0)))) (by simp [results,Tryz.results89,go_sem]) rfl ⟨by rw [show R=101 from hRv];rfl,hb0.trans (lower_below hb1 hb0.size)⟩
 |true=>
  have HV:=valid_yes W q n hro
  have hn:0<=n/\n<=256:=by
       have h2:Al.isSize n=true:=by (unfold Al.ringOk at hro;simp at hro;exact hro.2)
       have:=Al.size_facts h2;omega
  unfold Al.vectorF at hR
  rw [hro] at hR
  simp only [Bool.not_true,Bool.false_eq_true,if_false] at hR
  clear hro
  by_cases hln:(l.length:Int)=n
  ·rw [if_neg (by omega)] at hR
   have z:((l.length:Int) == n)=true:=by rw [hln];exact beq_self_eq_true _
   have z':((l.length:Int) !=n)=false:=by rw [hln];simp
   have hR':=Lib.hid hR
   clear hR
   have hl256:l.length<=256:=by omega
   have hlnh:=Lib.hid hln
   clear hln
   go_wp2_with (first|(go_at_call 61;refine HV.mono ?_;rintro e w1 ⟨rfl,hb1⟩;have v1:w1.cell? ⟨kp,1,none⟩=some (.int .i64 n):=(cell_blk (below_blk hb1 h0 hkl) _).trans rfl;have v0:w1.cell? ⟨kp,0,none⟩=some (.int .i64 q):=(cell_blk (below_blk hb1 h0 hkl) _).trans rfl))
   have hbb:Below w.heap.size w w1:=hb0.trans (lower_below hb1 hb0.size)
   have HI:Hid (w1.cell? ⟨kp,0,none⟩=some (.int .i64 q)/\Below w.heap.size w w1):=Lib.hid ⟨v0,hbb⟩
   clear v1 v0 hbb hb0 hb1 h0 HV hkl
   go_loopg [7,21] (l.length+1) (fun gk v7 v21 w'=>∃ i:Nat,v21= .int .i64 i/\i+gk=l.length+1/\i<=l.length/\Hid ((l.take i).any (badN q)=false)/\Hid (w'.cell? ⟨kp,0,none⟩=some (.int .i64 q)/\Below w.heap.size w w'))
   case atStart=>exact⟨0,rfl,by omega,by omega,Lib.hid (by simp),HI⟩
   case round=>
    obtain⟨i,rfl,hg,hi2,HN,HW⟩:=hrel
    have hno:=show (l.take i).any (badN q)=false from HN
    obtain⟨v0,hbb⟩:=show wr.cell? ⟨kp,0,none⟩=some (.int .i64 q)/\Below w.heap.size w wr from HW
    have g0:=(S.below hbb).cell 0 (by decide)
    unfold sv at g0
    clear HI HN HW
    by_cases hil:i<l.length
    ·obtain⟨k1,rfl⟩:∃ k1,gk=k1+1:=⟨gk - 1,by omega⟩
     obtain⟨ad,rfl,d0⟩:=intsC_get (show (Kd.int .i64).C w Al_ l.length l from HL) hil hil
     replace d0:=cell_since hbb d0
     have hnx:(l.take (i+1)).any (badN q)=((l.take i).any (badN q) || badN q l[i]):=by rw [List.take_succ_eq_append_getElem hil,List.any_append];simp
     have hall:badN q l[i]=true->l.any (badN q)=true:=fun h=>List.any_eq_true.2 ⟨_,List.getElem_mem hil,h⟩
     obtain⟨x,hx⟩:∃ x,x=l[i]:=⟨_,rfl⟩
     rw [<-hx] at d0 hnx hall
     replace hx:=Lib.hid hx
     have r0:(0:Int)<=(i:Int):=by omega
     have r1:(i:Int)<(l.length:Int):=by omega
     have r2:decide ((i:Int)<(l.length:Int))=true:=decide_eq_true r1
     have hbad:∀ h:badN q x=true,R=101:=fun h=>by
      rw [show R=_ from hR',show (fun x=>decide (x<0\/x>=q))=badN q from rfl,hall h,if_pos rfl]
     by_cases c0:x<0
     ·have e0:decide (x<0)=true:=decide_eq_true c0
      have hRv:=Lib.hid (hbad (by unfold badN;exact decide_eq_true (.inl c0)))
      clear hall hnx hno hbad c0
      go_wp2_with fail
      exact bodyPost_ret (v:= .iface 205 (.pointer (some (A 0)))) (by simp [results,Tryz.results89,go_sem]) rfl ⟨by rw [show R=101 from hRv];rfl,hbb⟩
     have e0:decide (x<0)=false:=decide_eq_false c0
     by_cases c1:q<=x
     ·have e1:decide (q<=x)=true:=decide_eq_true c1
      have hRv:=Lib.hid (hbad (by unfold badN;exact decide_eq_true (.inr c1)))
      clear hall hnx hno hbad c0 c1
      go_wp2_with fail
      exact bodyPost_ret (v:= .iface 205 (.pointer (some (A 0)))) (by simp [results,Tryz.results89,go_sem]) rfl ⟨by rw [show R=101 from hRv];rfl,hbb⟩
     have e1:decide (q<=x)=false:=decide_eq_false c1
     have ho:badN q x=false:=by unfold badN;exact decide_eq_false (by omega)
     rw [hno,ho] at hnx
     have HNX:=Lib.hid hnx
     have HI2:=Lib.hid (show wr.cell? ⟨kp,0,none⟩=some (.int .i64 q)/\Below w.heap.size w wr from⟨v0,hbb⟩)
     clear hall hnx hno hbad c0 c1 ho g0
     go_wp2_with fail
     go_roundg k1
     case measure=>omega
     case rel=>exact⟨i+1,by simp,by omega,by omega,HNX,HI2⟩
    ·have hie:i=l.length:=by omega
     have t1:decide ((i:Int)<(l.length:Int))=false:=by simp;omega
     rw [show l.take i=l by rw [hie,List.take_length]] at hno
     have hRv:=Lib.hid (show R=0 by rw [show R=_ from hR',show (fun x=>decide (x<0\/x>=q))=badN q from rfl,hno];rfl)
     clear hno
     go_wp2_with fail
     exact bodyPost_ret (v:=Value.nilIface) (by simp [results,Tryz.results89,go_sem]) rfl ⟨by rw [show R=0 from hRv];rfl,hbb⟩
  ·rw [if_pos hln] at hR
   have z:((l.length:Int) == n)=false:=beq_false_of_ne hln
   have z':((l.length:Int) !=n)=true:=by simp [hln]
   have hRv:=Lib.hid hR
   clear hR hln
   go_wp2_with (first|(go_at_call 61;refine HV.mono ?_;rintro e w1 ⟨rfl,hb1⟩;have v1:w1.cell? ⟨kp,1,none⟩=some (.int .i64 n):=(cell_blk (below_blk hb1 h0 hkl) _).trans rfl;have hb2:=hb0.trans (lower_below hb1 hb0.size);have g2:=(S.below hb2).cell 2 (by decide);unfold sv at g2))
   exact bodyPost_ret (v:= .iface 205 (.pointer (some (A 2)))) (by simp [results,Tryz.results89,go_sem]) rfl ⟨by rw [show R=102 from hRv];rfl,hb2⟩
theorem ErrAt.bare {w:World}{A:Nat->Addr}{g:Nat}(hg:g<14){f:Al.Fault}(h:f= .bare (numS g)):ErrAt w A f (sv A g):= .inr (.inl ⟨g,hg,h,rfl⟩)
theorem ErrAt.fine {w:World}{A:Nat->Addr}:ErrAt w A .fine Value.nilIface:= .inl ⟨rfl,rfl⟩
theorem ErrAt.at_ {w:World}{A:Nat->Addr}{f:Al.Fault}{i:Int}{g k:Nat}(hg:g<14)(h:f= .at_ (numS g) i)(hb:w.heap[k]?=some (.cells #[.int .i64 i,sv A g] 127 (0,0))):ErrAt w A f (.iface 125 (.pointer (some ⟨k,0,none⟩))):= .inr (.inr ⟨g,i,k,hg,h,rfl,hb⟩)
theorem ErrAt.one {w:World}{A:Nat->Addr}{f:Al.Fault}{v:Value}(h:ErrAt w A f v):v.oneCell'=true:=by
 rcases h with⟨_,rfl⟩|⟨g,_,_,rfl⟩|⟨g,i,k,_,_,rfl,_⟩<;> rfl
theorem vectorF_three (q n:Int)(l:List Int):Al.vectorF q n l=0\/Al.vectorF q n l=101\/Al.vectorF q n l=102:=by
 unfold Al.vectorF;(repeat' split)<;> simp
theorem eval_given {w:World}{A:Nat->Addr}(S:Sent w A){q n:Int}{vars:List Al.Var}{ins:List (List Int)}{tape:List Int}{Va Ia Ta:Option Addr}{vc ic tc:Nat}(xb:Value)(hxb:xb.oneCell'=true)(hv:kVar.C w Va vars.length vars)(hvl:vars.length<=1000)(hi:Kd.C (Kd.slice 3 (Kd.int .i64)) w Ia ins.length ins)(hil:ins.length<=1000000):
  Calls Tryz.prog 56 #[.agg #[.int .i64 q,.int .i64 n,.slice Va vars.length vc,xb],.slice Ia ins.length ic,.slice Ta tape.length tc] w fun e w'=>∃ v,e= .returned v/\ErrAt w' A (Al.inputsF q n vars ins tape 0) v/\Below w.heap.size w w':=by
 obtain⟨R,hR⟩:∃ R,R=Al.inputsF q n vars ins tape 0:=⟨_,rfl⟩
 rw [<-hR]
 obtain⟨W,hW⟩:∃ W,W=w.alloc (.cells #[.int .i64 q,.int .i64 n,.slice Va vars.length vc,xb] 27):=⟨_,rfl⟩
 have hb0:Below w.heap.size w W:=by rw [hW];exact (Below.refl _ _).alloc (Nat.le_refl _) _
 obtain⟨kp,hkp⟩:∃ kp,kp=w.heap.size:=⟨_,rfl⟩
 have P0:W.heap[kp]?=some (.cells #[.int .i64 q,.int .i64 n,.slice Va vars.length vc,xb] 27 (0,0)):=by rw [hW,hkp];exact heap_alloc_new w _
 have hkl:=blk_lt P0
 have HK:=src_kinds (w:=W) (q:=q) (n:=n) (vc:=vc) xb hxb (Kd.C_below hv hb0) hvl 1
 have hkl:=kindsFrom_len vars 1 0
 obtain⟨K,hK⟩:∃ K,K=Al.kindsOf vars 1:=⟨_,rfl⟩
 rw [<-hK] at HK
 unfold Al.inputsF at hR
 rw [<-hK] at hR
 have hKl:K.length<=1000:=by rw [hK];unfold Al.kindsOf;omega
 replace hK:=Lib.hid hK
 clear hkl
 have HI:=Lib.hid hi
 have p0:W.cell? ⟨kp,0,none⟩=some (.int .i64 q):=(cell_blk P0 _).trans rfl
 have p1:W.cell? ⟨kp,1,none⟩=some (.int .i64 n):=(cell_blk P0 _).trans rfl
 have p2:W.cell? ⟨kp,2,none⟩=some (.slice Va vars.length vc):=(cell_blk P0 _).trans rfl
 have p3:W.cell? ⟨kp,3,none⟩=some xb:=(cell_blk P0 _).trans rfl
 go_enter Tryz.func56,Tryz.ntmps56
 go_upto_region 1 with (fail)
 rw [<-hW]
 simp only [<-hkp]
 clear hW hv
 replace hkp:=Lib.hid hkp
 by_cases cl:(ins.length:Int)=K.length
 ·rw [if_neg (by omega)] at hR
  have z:((ins.length:Int) !=(K.length:Int))=false:=by simp [cl]
  have z':((ins.length:Int) == (K.length:Int))=true:=by simp [cl]
  have hR':=Lib.hid hR
  clear hR cl
  go_wp2_with (first|(go_at_call 57;refine HK.mono ?_;rintro e w1 ⟨vk,rfl,hown,hb1⟩;obtain⟨ka,kc,rfl⟩:=own_slice hown;have P1:=below_blk hb1 P0 (blk_lt P0);have hbb:=hb0.trans (lower_below hb1 hb0.size)))
  have HH:Hid (w1.heap[kp]?=some (.cells #[.int .i64 q,.int .i64 n,.slice Va vars.length vc,xb] 27 (0,0))/\Below w.heap.size w w1):=Lib.hid ⟨P1,hbb⟩
  clear P1 hbb hb1 hown P0 hb0 HK p0 p1 p2 p3
  obtain⟨FV,hFV⟩:∃ FV,FV=Al.firstV q n ins 0:=⟨_,rfl⟩
  have hR0:=show R=_ from hR'
  rw [<-hFV] at hR0
  have hR':=Lib.hid hR0
  clear hR0
  replace hFV:=Lib.hid hFV
  go_loopg [7,8,9,19] (ins.length+1) (fun gk v7 v8 v9 v19 w'=>∃ i:Nat,v19= .int .i64 i/\i+gk=ins.length+1/\i<=ins.length/\Hid (FV=Al.firstV q n (ins.drop i) i)/\Hid (w'.heap[kp]?=some (.cells #[.int .i64 q,.int .i64 n,.slice Va vars.length vc,xb] 27 (0,0))/\Below w.heap.size w w'))
  case atStart=>exact⟨0,rfl,by omega,by omega,Lib.hid (show FV=_ from hFV),HH⟩
  case round=>
   obtain⟨i,rfl,hg,hi2,HF,HW⟩:=hrel
   have hF:=show FV=Al.firstV q n (ins.drop i) i from HF
   obtain⟨P1,hbb⟩:=show wr.heap[kp]?=_/\Below w.heap.size w wr from HW
   have p0:wr.cell? ⟨kp,0,none⟩=some (.int .i64 q):=(cell_blk P1 _).trans rfl
   have p1:wr.cell? ⟨kp,1,none⟩=some (.int .i64 n):=(cell_blk P1 _).trans rfl
   clear HH HF HW
   by_cases hil:i<ins.length
   ·obtain⟨k1,rfl⟩:∃ k1,gk=k1+1:=⟨gk - 1,by omega⟩
    obtain⟨ad,A0,c0,rfl,d0,l0,g0⟩:=at_L4 (show Kd.C (Kd.slice 3 (Kd.int .i64)) w Ia ins.length ins from HI) (i:Int) (by omega) (by omega)
    simp only [Int.toNat_natCast] at d0
    replace d0:=cell_since hbb d0
    rw [List.drop_eq_getElem_cons hil] at hF
    unfold Al.firstV at hF
    have hx0:rd_L4 ins (i:Int)=ins[i]:=by unfold rd_L4;simp [List.getD_eq_getElem?_getD,hil]
    rw [hx0] at d0 l0 g0
    obtain⟨x,hx⟩:∃ x,x=ins[i]:=⟨_,rfl⟩
    rw [<-hx] at d0 l0 g0 hF
    clear hx hx0
    have HV:=fun (W:World) (hb:Below w.heap.size w W)=>ring_vector (S.below hb) (w:=W) (q:=q) (n:=n) (cap:=c0) (Kd.C_below g0 hb)
    have hbd:=below_drew' hbb
    clear g0
    have hv3:=vectorF_three q n x
    obtain⟨vf,hvf⟩:∃ vf,vf=Al.vectorF q n x:=⟨_,rfl⟩
    rw [<-hvf] at hF hv3
    simp only [<-hvf] at HV
    clear hvf
    have r0:(0:Int)<=(i:Int):=by omega
    have r1:(i:Int)<(ins.length:Int):=by omega
    have r2:decide ((i:Int)<(ins.length:Int))=true:=decide_eq_true r1
    by_cases hz:vf=0
    ·subst hz
     simp only [ne_eq,not_true,if_false] at hF
     have HF:Hid (FV=Al.firstV q n (ins.drop (i+1)) ((i+1:Nat):Int)):=Lib.hid (by rw [Int.natCast_add];exact hF)
     clear hF hv3
     simp only [eV0] at HV
     go_wp2_with (first|(go_at_call 89;refine (HV _ (by first|exact hbb|exact hbd)).mono ?_;rintro e w2 ⟨rfl,hb2⟩;replace hb2:Below wr.heap.size wr w2:=(by first|exact hb2|exact undrew hb2)))
     have HH2:Hid (w2.heap[kp]?=some (.cells #[.int .i64 q,.int .i64 n,.slice Va vars.length vc,xb] 27 (0,0))/\Below w.heap.size w w2):=Lib.hid ⟨below_blk hb2 P1 (blk_lt P1),hbb.trans (lower_below hb2 hbb.size)⟩
     clear hb2 P1 hbb p0 p1 d0 HV hbd
     go_roundg k1
     case measure=>omega
     case rel=>exact⟨i+1,by simp,by omega,by omega,HF,HH2⟩
    ·rw [if_pos hz] at hF
     have hRR:=show R=_ from hR'
     rw [if_pos (by rw [hF];exact hz),hF] at hRR
     obtain⟨g,hg14,hgv,hge⟩:∃ g,g<14/\vf=numS g/\eV A vf=sv A g:=by
      rcases hv3 with h|rfl|rfl
      ·exact absurd h hz
      ·exact⟨0,by decide,rfl,rfl⟩
      ·exact⟨2,by decide,rfl,rfl⟩
     rw [hgv] at hRR
     have hRv:=Lib.hid hRR
     simp only [hge] at HV
     unfold sv at HV
     clear hRR hF hv3 hz hgv hge
     go_wp2_with (first|(go_at_call 89;refine (HV _ (by first|exact hbb|exact hbd)).mono ?_;rintro e w2 ⟨rfl,hb2⟩;replace hb2:Below wr.heap.size wr w2:=(by first|exact hb2|exact undrew hb2);have hb3:=hbb.trans (lower_below hb2 hbb.size)))
     exact bodyPost_ret (v:= .iface 125 (.pointer (some ⟨w2.heap.size,0,none⟩))) (by simp [results,Tryz.results56,go_sem]) rfl ⟨_,rfl,ErrAt.at_ hg14 (show R=_ from hRv) (heap_alloc_new w2 _),hb3.alloc hb3.size _⟩
   ·have hie:i=ins.length:=by omega
    have t1:decide ((i:Int)<(ins.length:Int))=false:=by simp;omega
    have hRR:=show R=_ from hR'
    rw [hie,List.drop_length] at hF
    rw [if_neg (by rw [hF];simp [Al.firstV,Al.Fault.fine])] at hRR
    clear hF
    by_cases ct:(4096:Int)<tape.length
    ·rw [if_pos (by omega)] at hRR
     have t2:decide ((4096:Int)<(tape.length:Int))=true:=decide_eq_true ct
     have g2:=(S.below hbb).cell 2 (by decide)
     unfold sv at g2
     have hRv:=Lib.hid hRR
     clear hRR
     go_wp2_with fail
     exact bodyPost_ret (v:= .iface 205 (.pointer (some (A 2)))) (by simp [results,Tryz.results56,go_sem]) rfl ⟨_,rfl,ErrAt.bare (g:=2) (by decide) (show R=_ from hRv),hbb⟩
    rw [if_neg (by omega),if_neg (by omega)] at hRR
    have t2:decide ((4096:Int)<(tape.length:Int))=false:=decide_eq_false ct
    have hRv:=Lib.hid hRR
    clear hRR
    go_wp2_with fail
    exact bodyPost_ret (v:=Value.nilIface) (by simp [results,Tryz.results56,go_sem]) rfl ⟨_,rfl,by rw [show R=_ from hRv];exact ErrAt.fine,hbb⟩
 ·rw [if_pos (by omega)] at hR
  have z:((ins.length:Int) !=(K.length:Int))=true:=by simp [cl]
  have z':((ins.length:Int) == (K.length:Int))=false:=by simp [cl]
  have hR':=Lib.hid hR
  clear hR cl
  go_wp2_with (first|(go_at_call 57;refine HK.mono ?_;rintro e w1 ⟨vk,rfl,hown,hb1⟩;obtain⟨ka,kc,rfl⟩:=own_slice hown;have hbb:=hb0.trans (lower_below hb1 hb0.size);have g2:=(S.below hbb).cell 2 (by decide);unfold sv at g2))
  exact bodyPost_ret (v:= .iface 205 (.pointer (some (A 2)))) (by simp [results,Tryz.results56,go_sem]) rfl ⟨_,rfl,ErrAt.bare (g:=2) (by decide) (show R=_ from hR'),hbb⟩
end Go.Proofs.YtkplfaionpplaaaGreatDoor
namespace Go.Proofs.YtkplfaionpplaaaGreatDoor
open Go.RowKit Go.Proofs.YtkplfaionpplaaaGreatDoorW.PrintLast
def secP (vars:List Al.Var)(v:Int):Bool:=(rd_T901 vars v).secret
theorem index_x {w:World}{p:Al.Prog}{Va Ab:Option Addr}{vc cb k:Nat}(hp:PLies w p Va Ab vc cb)(hk:PBox w k p Va Ab vc cb){a:Option Addr}{cap:Nat}{L:List Int}(hI:IntsAt w (.slice a L.length cap) L)(hL:L.length<1000)(hr:∀ v∈L,0<=v/\v<p.vars.length):
  Calls Tryz.prog 175 #[.slice a L.length cap,.func (.func 176) #[] #[.pointer (some ⟨k,0,none⟩)]] w fun e w'=>∃ r:Int,e= .returned (.int .i64 r)/\w'=w/\(L.any (secP p.vars)=true->0<=r)/\(L.any (secP p.vars)=false->r= -1):=by
 obtain⟨B,hB⟩:∃ B,B=L.any (secP p.vars):=⟨_,rfl⟩
 rw [<-hB]
 replace hB:=Lib.hid hB
 go_enter Tryz.func175,Tryz.ntmps175
 go_wp2_with fail
 go_loopg [5,8] (L.length+1) (fun gk v5 v8 w'=>∃ j:Nat,v8= .int .i64 j/\j+gk=L.length+1/\j<=L.length/\w'=w/\Hid ((L.take j).any (secP p.vars)=false))
 case atStart=>exact⟨0,rfl,by omega,by omega,rfl,Lib.hid (by simp)⟩
 case round=>
  obtain⟨j,rfl,hj,hj2,hww,HR⟩:=hrel
  have hno:=show (L.take j).any (secP p.vars)=false from HR
  clear HR
  subst hww
  by_cases hjl:j<L.length
  ·obtain⟨k1,rfl⟩:∃ k1,gk=k1+1:=⟨gk - 1,by omega⟩
   have hrj:=hr L[j] (List.getElem_mem hjl)
   have hnx:(L.take (j+1)).any (secP p.vars)=((L.take j).any (secP p.vars) || secP p.vars L[j]):=by rw [List.take_succ_eq_append_getElem hjl,List.any_append];simp
   have hall:secP p.vars L[j]=true->L.any (secP p.vars)=true:=fun h=>List.any_eq_true.2 ⟨_,List.getElem_mem hjl,h⟩
   obtain⟨ag,he,hcell⟩:∃ ag,a=some ⟨ag,0,none⟩/\wr.cell? ⟨ag,j,none⟩=some (.int .i64 L[j]):=by
    rcases hI with⟨h,h0⟩|⟨g,c,cur,h,h1,h2⟩
    ·subst h0;simp at hjl
    ·simp only [Value.slice.injEq,true_and] at h
     exact⟨g,h.1,by rw [cell_blk h1,h2 j hjl]⟩
   obtain⟨x,hx⟩:∃ x,x=L[j]:=⟨_,rfl⟩
   rw [<-hx] at hrj hcell hnx hall
   replace hx:=Lib.hid hx
   subst he
   have t1:decide ((j:Int)<(L.length:Int))=true:=by simp;omega
   have t2:(0:Int)<=(j:Int):=by omega
   have t3:(j:Int)<(L.length:Int):=by omega
   have HO:=secret_one hp hk x hrj.1 hrj.2
   clear hI
   by_cases hsj:(rd_T901 p.vars x).secret=true
   ·rw [hsj] at HO
    have hany:=hall hsj
    have hBv:=Lib.hid ((show B=_ from hB).trans hany)
    clear hall hnx hno hany hsj
    go_wp2_with (first|(go_at_call 176;refine HO.mono ?_;rintro e w1 ⟨rfl,rfl⟩))
    exact bodyPost_ret (v:= .int .i64 j) (by simp [results,Tryz.results175,go_sem]) rfl ⟨_,rfl,rfl,fun _=>by omega,fun h=>(by rw [show B=true from hBv] at h;cases h)⟩
   have hsj:(rd_T901 p.vars x).secret=false:=by simpa using hsj
   rw [hsj] at HO
   rw [hno,show secP p.vars x=false from hsj] at hnx
   have HN:=Lib.hid hnx
   clear hall hnx hno hsj
   go_wp2_with (first|(go_at_call 176;refine HO.mono ?_;rintro e w1 ⟨rfl,rfl⟩))
   go_roundg k1
   case measure=>omega
   case rel=>exact⟨j+1,by simp,by omega,by omega,rfl,HN⟩
  ·have hje:j=L.length:=by omega
   have t1:decide ((j:Int)<(L.length:Int))=false:=by simp;omega
   rw [hje,List.take_length] at hno
   have hBv:=Lib.hid ((show B=_ from hB).trans hno)
   clear hno hje
   go_wp2_with fail
   exact bodyPost_ret (v:= .int .i64 (-1)) (by simp [results,Tryz.results175,go_sem]) rfl ⟨_,rfl,rfl,fun h=>(by rw [show B=false from hBv] at h;cases h),fun _=>rfl⟩
theorem contains_x {w:World}{p:Al.Prog}{Va Ab:Option Addr}{vc cb k:Nat}(hp:PLies w p Va Ab vc cb)(hk:PBox w k p Va Ab vc cb){a:Option Addr}{cap:Nat}{L:List Int}(hI:IntsAt w (.slice a L.length cap) L)(hL:L.length<1000)(hr:∀ v∈L,0<=v/\v<p.vars.length):
  Calls Tryz.prog 147 #[.slice a L.length cap,.func (.func 176) #[] #[.pointer (some ⟨k,0,none⟩)]] w fun e w'=>e= .returned (.bool (L.any (secP p.vars)))/\w'=w:=by
 have HX:=index_x hp hk hI hL hr
 cases hb:L.any (secP p.vars) with
 |false=>
  rw [hb] at HX
  clear hb
  go_enter Tryz.func147,Tryz.ntmps147
  go_wp2_with (first|(go_at_call 175;refine HX.mono ?_;rintro e w1 ⟨r,rfl,rfl,h1,h2⟩;obtain rfl:=h2 rfl;clear h1 h2))
  exact bodyPost_ret (v:= .bool false) (by simp [results,Tryz.results147,go_sem]) rfl ⟨rfl,rfl⟩
 |true=>
  rw [hb] at HX
  clear hb
  go_enter Tryz.func147,Tryz.ntmps147
  go_wp2_with (first|(go_at_call 175;refine HX.mono ?_;rintro e w1 ⟨r,rfl,rfl,h1,h2⟩;have h3:=h1 rfl;have h4:decide ((0:Int)<=r)=true:=decide_eq_true h3;clear h1 h2))
  exact bodyPost_ret (v:= .bool true) (by simp [results,Tryz.results147,go_sem]) rfl ⟨rfl,rfl⟩
theorem breaks_if_x {w:World}{p:Al.Prog}{Va Ab:Option Addr}{vc cb:Nat}(hp:PLies w p Va Ab vc cb)(s:Al.Stmt)(x6 x7:Value){g:Al.Has}(hg:Al.hasOf s.op=some g)(hr:∀ v∈Al.usesOf s,0<=v/\v<p.vars.length)(hd:g.d=true->0<=s.d/\s.d<p.vars.length)(hop:s.op=14\/s.op=16):
  Calls Tryz.prog 109 #[progV p Va Ab vc cb,.agg (stmtV s x6 x7)] w fun e w'=>e= .returned (.bool ((Al.usesOf s).any (secP p.vars)))/\Below w.heap.size w w':=by
 obtain⟨W,hW⟩:∃ W,W=(w.alloc (.cells #[.int .i64 p.q,.int .i64 p.n,.slice Va p.vars.length vc,.slice Ab p.body.length cb] 27)).alloc (.cells (stmtV s x6 x7) 66):=⟨_,rfl⟩
 obtain⟨kp,hkp⟩:∃ kp,kp=w.heap.size:=⟨_,rfl⟩
 obtain⟨ks,hks⟩:∃ ks,ks=kp+1:=⟨_,rfl⟩
 have hb0:Below w.heap.size w W:=by rw [hW];exact alloc_two _ _ _
 have hP:PBox W kp p Va Ab vc cb:=by rw [hW,hkp];exact alloc_blk _ (heap_alloc_new w _)
 have hS:SB W ks s x6 x7:=by rw [hW,hks,hkp];exact alloc_at _ _ _
 have hpl:=hp.below hb0
 have hLl:(Al.usesOf s).length<1000:=by
  unfold Al.usesOf;rw [hg]
  simp only [List.length_append]
  (repeat' split)<;> simp
 obtain⟨L,hL⟩:∃ L,L=Al.usesOf s:=⟨_,rfl⟩
 have HU:=fun w0=>src_uses w0 s x6 x7 hg
 have HS:=fun w0=>secret_any (w:=w0) (p:=p) (Va:=Va) (Ab:=Ab) (vc:=vc) (cb:=cb)
 rw [<-hL] at hr hLl ⊢
 simp only [<-hL] at HU
 replace hL:=Lib.hid hL
 unfold stmtV at HU
 unfold progV at HS
 cases s with|mk op d a b c k body els=>
 dsimp only at hop hg hL HU hd
 unfold stmtV at hW
 dsimp only at hW
 go_enter Tryz.func109,Tryz.ntmps109
 unfold stmtV progV
 dsimp only
 clear hg
 rcases hop with rfl|rfl
 ·go_upto_region 2 with fail
  rw [<-hW]
  simp only [<-hkp,<-hks]
  clear hW
  obtain⟨p0,p1,p2,p3⟩:=hP.cells
  obtain⟨s0,s1,s2,s3,s4,s5,s6,s7⟩:=hS.cells
  dsimp only at s0 s1 s2 s3 s4 s5
  have hkpl:=blk_lt hP
  have hksl:=blk_lt hS
  replace hkp:=Lib.hid hkp
  replace hks:=Lib.hid hks
  go_region_held3 (fun w'=>w'.cell? ⟨kp,0,none⟩=some (.int .i64 p.q)/\w'.cell? ⟨kp,1,none⟩=some (.int .i64 p.n)/\w'.cell? ⟨kp,2,none⟩=some (.slice Va p.vars.length vc)/\w'.cell? ⟨kp,3,none⟩=some (.slice Ab p.body.length cb)/\w'.cell? ⟨ks,0,none⟩=some (.int .i64 14)/\w'.cell? ⟨ks,1,none⟩=some (.int .i64 d)/\w'.cell? ⟨ks,2,none⟩=some (.int .i64 a)/\w'.cell? ⟨ks,3,none⟩=some (.int .i64 b)/\w'.cell? ⟨ks,4,none⟩=some (.int .i64 c)/\w'.cell? ⟨ks,5,none⟩=some (.int .i64 k)/\w'.cell? ⟨ks,6,none⟩=some x6/\w'.cell? ⟨ks,7,none⟩=some x7) ((refine⟨?_,?_,?_,?_,?_,?_,?_,?_,?_,?_,?_,?_⟩<;> assumption)) (first
   |(go_at_call 143;refine (HU _).mono ?_;rintro e w1 ⟨v,rfl,hown,hb1⟩;replace hb1:=undrew hb1;obtain⟨av,cv,rfl⟩:=own_slice hown;have P1:PBox w1 kp p Va Ab vc cb:=below_blk hb1 hP hkpl;have S1:SB w1 ks _ x6 x7:=below_blk hb1 hS hksl;have hb2:=hb0.trans (lower_below hb1 hb0.size);clear p0 p1 p2 p3 s0 s1 s2 s3 s4 s5 s6 s7;obtain⟨p0,p1,p2,p3⟩:=P1.cells;obtain⟨s0,s1,s2,s3,s4,s5,s6,s7⟩:=S1.cells;dsimp only at s0 s1 s2 s3 s4 s5)
   |(go_at_call 148;refine (HS _).mono ?_;rintro e w2 ⟨kq,rfl,hQ,hb3⟩;have P2:PBox w2 kp p Va Ab vc cb:=below_blk hb3 P1 (blk_lt P1);have S2:SB w2 ks _ x6 x7:=below_blk hb3 S1 (blk_lt S1);have hb4:=hb2.trans (lower_below hb3 hb2.size);have hown2:=own_of hown fun k hk=>hb3.block k (hown.lt k hk).2;clear p0 p1 p2 p3 s0 s1 s2 s3 s4 s5 s6 s7;obtain⟨p0,p1,p2,p3⟩:=P2.cells;obtain⟨s0,s1,s2,s3,s4,s5,s6,s7⟩:=S2.cells;dsimp only at s0 s1 s2 s3 s4 s5)
   |(go_at_call 147;refine (contains_x (hp.below hb4) hQ (own_ints hown2) hLl hr).mono ?_;rintro e w3 ⟨rfl,rfl⟩))
  go_wp2_with fail
  exact bodyPost_ret (v:= .bool (L.any (secP p.vars))) (by simp [results,Tryz.results109,go_sem]) rfl ⟨rfl,hb4⟩
 ·go_upto_region 2 with fail
  rw [<-hW]
  simp only [<-hkp,<-hks]
  clear hW
  obtain⟨p0,p1,p2,p3⟩:=hP.cells
  obtain⟨s0,s1,s2,s3,s4,s5,s6,s7⟩:=hS.cells
  dsimp only at s0 s1 s2 s3 s4 s5
  have hkpl:=blk_lt hP
  have hksl:=blk_lt hS
  replace hkp:=Lib.hid hkp
  replace hks:=Lib.hid hks
  go_region_held3 (fun w'=>w'.cell? ⟨kp,0,none⟩=some (.int .i64 p.q)/\w'.cell? ⟨kp,1,none⟩=some (.int .i64 p.n)/\w'.cell? ⟨kp,2,none⟩=some (.slice Va p.vars.length vc)/\w'.cell? ⟨kp,3,none⟩=some (.slice Ab p.body.length cb)/\w'.cell? ⟨ks,0,none⟩=some (.int .i64 16)/\w'.cell? ⟨ks,1,none⟩=some (.int .i64 d)/\w'.cell? ⟨ks,2,none⟩=some (.int .i64 a)/\w'.cell? ⟨ks,3,none⟩=some (.int .i64 b)/\w'.cell? ⟨ks,4,none⟩=some (.int .i64 c)/\w'.cell? ⟨ks,5,none⟩=some (.int .i64 k)/\w'.cell? ⟨ks,6,none⟩=some x6/\w'.cell? ⟨ks,7,none⟩=some x7) ((refine⟨?_,?_,?_,?_,?_,?_,?_,?_,?_,?_,?_,?_⟩<;> assumption)) (first
   |(go_at_call 143;refine (HU _).mono ?_;rintro e w1 ⟨v,rfl,hown,hb1⟩;replace hb1:=undrew hb1;obtain⟨av,cv,rfl⟩:=own_slice hown;have P1:PBox w1 kp p Va Ab vc cb:=below_blk hb1 hP hkpl;have S1:SB w1 ks _ x6 x7:=below_blk hb1 hS hksl;have hb2:=hb0.trans (lower_below hb1 hb0.size);clear p0 p1 p2 p3 s0 s1 s2 s3 s4 s5 s6 s7;obtain⟨p0,p1,p2,p3⟩:=P1.cells;obtain⟨s0,s1,s2,s3,s4,s5,s6,s7⟩:=S1.cells;dsimp only at s0 s1 s2 s3 s4 s5)
   |(go_at_call 148;refine (HS _).mono ?_;rintro e w2 ⟨kq,rfl,hQ,hb3⟩;have P2:PBox w2 kp p Va Ab vc cb:=below_blk hb3 P1 (blk_lt P1);have S2:SB w2 ks _ x6 x7:=below_blk hb3 S1 (blk_lt S1);have hb4:=hb2.trans (lower_below hb3 hb2.size);have hown2:=own_of hown fun k hk=>hb3.block k (hown.lt k hk).2;clear p0 p1 p2 p3 s0 s1 s2 s3 s4 s5 s6 s7;obtain⟨p0,p1,p2,p3⟩:=P2.cells;obtain⟨s0,s1,s2,s3,s4,s5,s6,s7⟩:=S2.cells;dsimp only at s0 s1 s2 s3 s4 s5)
   |(go_at_call 147;refine (contains_x (hp.below hb4) hQ (own_ints hown2) hLl hr).mono ?_;rintro e w3 ⟨rfl,rfl⟩))
  go_wp2_with fail
  exact bodyPost_ret (v:= .bool (L.any (secP p.vars))) (by simp [results,Tryz.results109,go_sem]) rfl ⟨rfl,hb4⟩
theorem spills_x {w:World}{p:Al.Prog}{Va Ab:Option Addr}{vc cb:Nat}(hp:PLies w p Va Ab vc cb)(s:Al.Stmt)(x6 x7:Value){g:Al.Has}(hg:Al.hasOf s.op=some g)(hr:∀ v∈Al.usesOf s,0<=v/\v<p.vars.length)(hd:g.d=true->0<=s.d/\s.d<p.vars.length)(hop:s.op≠14/\s.op≠16):
  Calls Tryz.prog 149 #[progV p Va Ab vc cb,.agg (stmtV s x6 x7)] w fun e w'=>e= .returned (.bool (Al.breaksB p.vars s))/\Below w.heap.size w w':=by
 obtain⟨W,hW⟩:∃ W,W=(w.alloc (.cells #[.int .i64 p.q,.int .i64 p.n,.slice Va p.vars.length vc,.slice Ab p.body.length cb] 27)).alloc (.cells (stmtV s x6 x7) 66):=⟨_,rfl⟩
 obtain⟨kp,hkp⟩:∃ kp,kp=w.heap.size:=⟨_,rfl⟩
 obtain⟨ks,hks⟩:∃ ks,ks=kp+1:=⟨_,rfl⟩
 have hb0:Below w.heap.size w W:=by rw [hW];exact alloc_two _ _ _
 have hP:PBox W kp p Va Ab vc cb:=by rw [hW,hkp];exact alloc_blk _ (heap_alloc_new w _)
 have hS:SB W ks s x6 x7:=by rw [hW,hks,hkp];exact alloc_at _ _ _
 have hpl:=hp.below hb0
 have hLl:(Al.usesOf s).length<1000:=by
  unfold Al.usesOf;rw [hg]
  simp only [List.length_append]
  (repeat' split)<;> simp
 have hcase:(g.d=false/\Al.breaksB p.vars s=false)\/(g.d=true/\(rd_T901 p.vars s.d).secret=true/\Al.breaksB p.vars s=false)\/(g.d=true/\(rd_T901 p.vars s.d).secret=false/\s.op=12/\Al.breaksB p.vars s=false)\/(g.d=true/\(rd_T901 p.vars s.d).secret=false/\s.op=13/\Al.breaksB p.vars s=true)\/(g.d=true/\(rd_T901 p.vars s.d).secret=false/\s.op≠12/\s.op≠13/\Al.breaksB p.vars s=(Al.usesOf s).any (secP p.vars)):=by
  have hsp:(Al.usesOf s).any (fun v=>(Al.varAt p.vars v).secret)=(Al.usesOf s).any (secP p.vars):=rfl
  have hd1:(Al.varAt p.vars s.d).secret=(rd_T901 p.vars s.d).secret:=rfl
  have h16:1<=s.op/\s.op<=16:=by
   refine Decidable.byContradiction fun hn=>?_
   unfold Al.hasOf at hg
   (repeat' rw [if_neg (by omega)] at hg)
   cases hg
  rcases (Bool.eq_false_or_eq_true g.d).symm with h1|h1
  ·refine .inl ⟨h1,?_⟩
   have h15:s.op=15:=by
    refine Decidable.byContradiction fun hn=>?_
    have hc:s.op=1\/s.op=2\/s.op=3\/s.op=4\/s.op=5\/s.op=6\/s.op=7\/s.op=8\/s.op=9\/s.op=10\/s.op=11\/s.op=12\/s.op=13:=by omega
    rcases hc with e|e|e|e|e|e|e|e|e|e|e|e|e<;> rw [e] at hg<;> simp [Al.hasOf] at hg<;> subst hg<;> cases h1
   unfold Al.breaksB Al.usesOf
   rw [h15]
   rfl
  rcases Bool.eq_false_or_eq_true (rd_T901 p.vars s.d).secret with h2|h2
  ·refine .inr (.inl ⟨h1,h2,?_⟩)
   have hc:s.op<=13:=by
    refine Decidable.byContradiction fun hn=>?_
    have h15:s.op=15:=by omega
    rw [h15] at hg
    have hh:Al.hasOf 15=some ⟨false,false,false,false,true,true,false⟩:=rfl
    rw [hh] at hg;obtain rfl:=Option.some.inj hg;cases h1
   unfold Al.breaksB
   rw [hd1,h2]
   dsimp only
   by_cases h12:s.op=12
   ·rw [if_pos h12]
   by_cases h13:s.op=13
   ·rw [if_neg h12,if_pos h13];rfl
   rw [if_neg h12,if_neg h13,if_pos (by omega)]
   simp
  by_cases h3:s.op=12
  ·exact .inr (.inr (.inl ⟨h1,h2,h3,by unfold Al.breaksB;rw [h3];rfl⟩))
  by_cases h4:s.op=13
  ·exact .inr (.inr (.inr (.inl ⟨h1,h2,h4,by unfold Al.breaksB;rw [hd1,h2,h4];rfl⟩)))
  refine .inr (.inr (.inr (.inr ⟨h1,h2,h3,h4,?_⟩)))
  have hc:s.op<=13:=by
   refine Decidable.byContradiction fun hn=>?_
   have h15:s.op=15:=by omega
   rw [h15] at hg
   have hh:Al.hasOf 15=some ⟨false,false,false,false,true,true,false⟩:=rfl
   rw [hh] at hg;obtain rfl:=Option.some.inj hg;cases h1
  unfold Al.breaksB
  rw [hd1,h2]
  dsimp only
  rw [if_neg h3,if_neg h4,if_pos (by omega),hsp]
  simp
 obtain⟨L,hL⟩:∃ L,L=Al.usesOf s:=⟨_,rfl⟩
 have HU:=fun w0=>src_uses w0 s x6 x7 hg
 have HS:=fun w0=>secret_any (w:=w0) (p:=p) (Va:=Va) (Ab:=Ab) (vc:=vc) (cb:=cb)
 have HW:=fun w0=>src_writes w0 s x6 x7 hg
 rw [<-hL] at hr hLl
 simp only [<-hL] at HU hcase
 replace hL:=Lib.hid hL
 unfold stmtV at HU HW
 unfold progV at HS
 obtain⟨B,hB⟩:∃ B,B=Al.breaksB p.vars s:=⟨_,rfl⟩
 rw [<-hB] at hcase ⊢
 clear hB
 obtain⟨p0,p1,p2,p3⟩:=hP.cells
 obtain⟨s0,s1,s2,s3,s4,s5,s6,s7⟩:=hS.cells
 have hkpl:=blk_lt hP
 have hksl:=blk_lt hS
 go_enter Tryz.func149,Tryz.ntmps149
 unfold stmtV progV
 go_wp2_with fail
 have hWu:W=(w.alloc (.cells #[.int .i64 p.q,.int .i64 p.n,.slice Va p.vars.length vc,.slice Ab p.body.length cb] 27)).alloc (.cells #[.int .i64 s.op,.int .i64 s.d,.int .i64 s.a,.int .i64 s.b,.int .i64 s.c,.int .i64 s.k,x6,x7] 66):=hW
 rw [<-hWu]
 simp only [<-hkp,<-hks]
 clear hW hWu
 replace hkp:=Lib.hid hkp
 replace hks:=Lib.hid hks
 rcases hcase with⟨h1,hbk⟩|⟨h1,h2,hbk⟩|⟨h1,h2,h3,hbk⟩|⟨h1,h2,h3,hbk⟩|⟨h1,h2,h3,h4,hbk⟩<;> replace hbk:=Lib.hid hbk
 ·simp only [h1,if_false,Bool.false_eq_true] at HW
  replace h1:=Lib.hid h1
  go_wp2_with (first|(go_at_call 144;refine (HW _).mono ?_;rintro e w1 ⟨rfl,hb1⟩;have P1:PBox w1 kp p Va Ab vc cb:=below_blk hb1 hP hkpl;have S1:SB w1 ks s x6 x7:=below_blk hb1 hS hksl;have hb2:=hb0.trans (lower_below hb1 hb0.size);clear p0 p1 p2 p3 s0 s1 s2 s3 s4 s5 s6 s7;obtain⟨p0,p1,p2,p3⟩:=P1.cells;obtain⟨s0,s1,s2,s3,s4,s5,s6,s7⟩:=S1.cells))
  exact bodyPost_ret (v:= .bool false) (by simp [results,Tryz.results149,go_sem]) rfl ⟨by rw [show B=_ from hbk],hb2⟩
 ·simp only [h1,if_true] at HW
  have hd':=hd h1
  have hd0:=hd'.1
  have hd1:=hd'.2
  replace h1:=Lib.hid h1
  obtain⟨ad,rfl,kk0,kk⟩:=at_T901 hp.v s.d hd0 hd1
  have kd:=fun (w0:World) (hb:Below w.heap.size w w0)=>cell_since hb kk
  rw [h2] at kd
  replace h2:=Lib.hid h2
  go_wp2_with (first|(go_at_call 144;refine (HW _).mono ?_;rintro e w1 ⟨rfl,hb1⟩;have P1:PBox w1 kp p (some ad) Ab vc cb:=below_blk hb1 hP hkpl;have S1:SB w1 ks s x6 x7:=below_blk hb1 hS hksl;have hb2:=hb0.trans (lower_below hb1 hb0.size);clear p0 p1 p2 p3 s0 s1 s2 s3 s4 s5 s6 s7;obtain⟨p0,p1,p2,p3⟩:=P1.cells;obtain⟨s0,s1,s2,s3,s4,s5,s6,s7⟩:=S1.cells;have kd1:=kd w1 hb2))
  exact bodyPost_ret (v:= .bool false) (by simp [results,Tryz.results149,go_sem]) rfl ⟨by rw [show B=_ from hbk],hb2⟩
 ·simp only [h1,if_true] at HW
  have hd':=hd h1
  have hd0:=hd'.1
  have hd1:=hd'.2
  replace h1:=Lib.hid h1
  obtain⟨ad,rfl,kk0,kk⟩:=at_T901 hp.v s.d hd0 hd1
  have kd:=fun (w0:World) (hb:Below w.heap.size w w0)=>cell_since hb kk
  rw [h2] at kd
  replace h2:=Lib.hid h2
  have z12:(s.op !=12)=false:=by simp [h3]
  have z13:decide (s.op=13)=false:=decide_eq_false (by omega)
  replace h3:=Lib.hid h3
  go_wp2_with (first|(go_at_call 144;refine (HW _).mono ?_;rintro e w1 ⟨rfl,hb1⟩;have P1:PBox w1 kp p (some ad) Ab vc cb:=below_blk hb1 hP hkpl;have S1:SB w1 ks s x6 x7:=below_blk hb1 hS hksl;have hb2:=hb0.trans (lower_below hb1 hb0.size);clear p0 p1 p2 p3 s0 s1 s2 s3 s4 s5 s6 s7;obtain⟨p0,p1,p2,p3⟩:=P1.cells;obtain⟨s0,s1,s2,s3,s4,s5,s6,s7⟩:=S1.cells;have kd1:=kd w1 hb2))
  go_big_quiet (fail)
  go_wp2_with fail
  exact bodyPost_ret (v:= .bool false) (by simp [results,Tryz.results149,go_sem]) rfl ⟨by rw [show B=_ from hbk],Go.Proofs.YtkplfaionpplaaaGreatDoorW.PrintWords.pw_below_drewN hb2 _⟩
 ·simp only [h1,if_true] at HW
  have hd':=hd h1
  have hd0:=hd'.1
  have hd1:=hd'.2
  replace h1:=Lib.hid h1
  obtain⟨ad,rfl,kk0,kk⟩:=at_T901 hp.v s.d hd0 hd1
  have kd:=fun (w0:World) (hb:Below w.heap.size w w0)=>cell_since hb kk
  rw [h2] at kd
  replace h2:=Lib.hid h2
  have z13:decide (s.op=13)=true:=decide_eq_true h3
  have z13':(s.op == 13)=true:=by rw [h3];rfl
  replace h3:=Lib.hid h3
  go_wp2_with (first|(go_at_call 144;refine (HW _).mono ?_;rintro e w1 ⟨rfl,hb1⟩;have P1:PBox w1 kp p (some ad) Ab vc cb:=below_blk hb1 hP hkpl;have S1:SB w1 ks s x6 x7:=below_blk hb1 hS hksl;have hb2:=hb0.trans (lower_below hb1 hb0.size);clear p0 p1 p2 p3 s0 s1 s2 s3 s4 s5 s6 s7;obtain⟨p0,p1,p2,p3⟩:=P1.cells;obtain⟨s0,s1,s2,s3,s4,s5,s6,s7⟩:=S1.cells;have kd1:=kd w1 hb2))
  exact bodyPost_ret (v:= .bool true) (by simp [results,Tryz.results149,go_sem]) rfl ⟨by rw [show B=_ from hbk],hb2⟩
 ·simp only [h1,if_true] at HW
  have hd':=hd h1
  have hd0:=hd'.1
  have hd1:=hd'.2
  replace h1:=Lib.hid h1
  obtain⟨ad,rfl,kk0,kk⟩:=at_T901 hp.v s.d hd0 hd1
  have kd:=fun (w0:World) (hb:Below w.heap.size w w0)=>cell_since hb kk
  rw [h2] at kd
  replace h2:=Lib.hid h2
  have z12:(s.op !=12)=true:=by simp [h3]
  have z13:(s.op == 13)=false:=beq_false_of_ne h4
  replace h3:=Lib.hid h3
  replace h4:=Lib.hid h4
  go_wp2_with (first|(go_at_call 144;refine (HW _).mono ?_;rintro e w1 ⟨rfl,hb1⟩;have P1:PBox w1 kp p (some ad) Ab vc cb:=below_blk hb1 hP hkpl;have S1:SB w1 ks s x6 x7:=below_blk hb1 hS hksl;have hb2:=hb0.trans (lower_below hb1 hb0.size);clear p0 p1 p2 p3 s0 s1 s2 s3 s4 s5 s6 s7;obtain⟨p0,p1,p2,p3⟩:=P1.cells;obtain⟨s0,s1,s2,s3,s4,s5,s6,s7⟩:=S1.cells;have kd1:=kd w1 hb2))
  go_region_held3 (fun w'=>w'.cell? ⟨kp,0,none⟩=some (.int .i64 p.q)/\w'.cell? ⟨kp,1,none⟩=some (.int .i64 p.n)/\w'.cell? ⟨kp,2,none⟩=some (.slice (some ad) p.vars.length vc)/\w'.cell? ⟨kp,3,none⟩=some (.slice Ab p.body.length cb)/\w'.cell? ⟨ks,0,none⟩=some (.int .i64 s.op)/\w'.cell? ⟨ks,1,none⟩=some (.int .i64 s.d)/\w'.cell? ⟨ks,2,none⟩=some (.int .i64 s.a)/\w'.cell? ⟨ks,3,none⟩=some (.int .i64 s.b)/\w'.cell? ⟨ks,4,none⟩=some (.int .i64 s.c)/\w'.cell? ⟨ks,5,none⟩=some (.int .i64 s.k)/\w'.cell? ⟨ks,6,none⟩=some x6/\w'.cell? ⟨ks,7,none⟩=some x7) ((refine⟨?_,?_,?_,?_,?_,?_,?_,?_,?_,?_,?_,?_⟩<;> assumption)) (first
   |(go_at_call 143;refine (HU _).mono ?_;rintro e w2 ⟨v,rfl,hown,hb3⟩;replace hb3:=undrew hb3;obtain⟨av,cv,rfl⟩:=own_slice hown;have P2:PBox w2 kp p (some ad) Ab vc cb:=below_blk hb3 P1 (blk_lt P1);have S2:SB w2 ks _ x6 x7:=below_blk hb3 S1 (blk_lt S1);have hb4:=hb2.trans (lower_below hb3 hb2.size);clear p0 p1 p2 p3 s0 s1 s2 s3 s4 s5 s6 s7;obtain⟨p0,p1,p2,p3⟩:=P2.cells;obtain⟨s0,s1,s2,s3,s4,s5,s6,s7⟩:=S2.cells)
   |(go_at_call 148;refine (HS _).mono ?_;rintro e w3 ⟨kq,rfl,hQ,hb5⟩;have P3:PBox w3 kp p (some ad) Ab vc cb:=below_blk hb5 P2 (blk_lt P2);have S3:SB w3 ks _ x6 x7:=below_blk hb5 S2 (blk_lt S2);have hb6:=hb4.trans (lower_below hb5 hb4.size);have hown2:=own_of hown fun k hk=>hb5.block k (hown.lt k hk).2;clear p0 p1 p2 p3 s0 s1 s2 s3 s4 s5 s6 s7;obtain⟨p0,p1,p2,p3⟩:=P3.cells;obtain⟨s0,s1,s2,s3,s4,s5,s6,s7⟩:=S3.cells)
   |(go_at_call 147;refine (contains_x (hp.below hb6) hQ (own_ints hown2) hLl hr).mono ?_;rintro e w4 ⟨rfl,rfl⟩))
  go_wp2_with fail
  exact bodyPost_ret (v:= .bool (L.any (secP p.vars))) (by simp [results,Tryz.results149,go_sem]) rfl ⟨by rw [show B=_ from hbk],hb6⟩
theorem breaks_x {w:World}{p:Al.Prog}{Va Ab:Option Addr}{vc cb:Nat}(hp:PLies w p Va Ab vc cb)(s:Al.Stmt)(x6 x7:Value){g:Al.Has}(hg:Al.hasOf s.op=some g)(hr:∀ v∈Al.usesOf s,0<=v/\v<p.vars.length)(hd:g.d=true->0<=s.d/\s.d<p.vars.length):
  Calls Tryz.prog 109 #[progV p Va Ab vc cb,.agg (stmtV s x6 x7)] w fun e w'=>e= .returned (.bool (Al.breaksB p.vars s))/\Below w.heap.size w w':=by
 by_cases hop:s.op=14\/s.op=16
 ·have hb:Al.breaksB p.vars s=(Al.usesOf s).any (secP p.vars):=by
   unfold Al.breaksB
   rcases hop with h|h<;> rw [h]<;> rfl
  rw [hb]
  exact breaks_if_x hp s x6 x7 hg hr hd hop
 have hop2:s.op≠14/\s.op≠16:=by omega
 obtain⟨W,hW⟩:∃ W,W=(w.alloc (.cells #[.int .i64 p.q,.int .i64 p.n,.slice Va p.vars.length vc,.slice Ab p.body.length cb] 27)).alloc (.cells (stmtV s x6 x7) 66):=⟨_,rfl⟩
 obtain⟨kp,hkp⟩:∃ kp,kp=w.heap.size:=⟨_,rfl⟩
 obtain⟨ks,hks⟩:∃ ks,ks=kp+1:=⟨_,rfl⟩
 have hb0:Below w.heap.size w W:=by rw [hW];exact alloc_two _ _ _
 have hP:PBox W kp p Va Ab vc cb:=by rw [hW,hkp];exact alloc_blk _ (heap_alloc_new w _)
 have hS:SB W ks s x6 x7:=by rw [hW,hks,hkp];exact alloc_at _ _ _
 have hpl:=hp.below hb0
 have HSP:=spills_x hpl s x6 x7 hg hr hd hop2
 have z14:(s.op == 14)=false:=beq_false_of_ne hop2.1
 have z16:(s.op == 16)=false:=beq_false_of_ne hop2.2
 have y14:decide (s.op=14)=false:=decide_eq_false hop2.1
 have y16:decide (s.op=16)=false:=decide_eq_false hop2.2
 unfold stmtV at HSP hW
 unfold progV at HSP
 rw [hW] at HSP hb0
 clear hop
 obtain⟨B,hB⟩:∃ B,B=Al.breaksB p.vars s:=⟨_,rfl⟩
 rw [<-hB] at HSP ⊢
 clear hB
 go_enter Tryz.func109,Tryz.ntmps109
 unfold stmtV progV
 go_wp2_with (first|(go_at_call 149;refine HSP.mono ?_;rintro e w1 ⟨rfl,hb1⟩))
 exact bodyPost_ret (v:= .bool B) (by simp [results,Tryz.results109,go_sem]) rfl ⟨rfl,hb0.trans (lower_below hb1 hb0.size)⟩
end Go.Proofs.YtkplfaionpplaaaGreatDoor
