/- Part 20: B58, B59, B60. -/
import Derived.Test.YtkplfaionpplaaaGreatDoorK19
import Derived.Deep.CutRange
set_option maxRecDepth 100000
set_option maxHeartbeats 6400000
set_option linter.unusedVariables false
set_option linter.unusedSimpArgs false
namespace Go.Proofs.YtkplfaionpplaaaGreatDoor
open Go.RowKit Go.Proofs.YtkplfaionpplaaaGreatDoorW.PrintWords
theorem row_one (w:World){base:Nat}(hb:base<=w.heap.size)(x:Value)(e:TypeId):(w.alloc (.cells #[x] e)).ownsRow base e 1 (.slice (some ⟨w.heap.size,0,none⟩) 1 1) 1 [x]:=
 ⟨rfl,.inr ⟨w.heap.size,1,_,rfl,hb,heap_alloc_new _ _,by omega,by unfold maxLen;omega,rfl,rfl⟩⟩
theorem kindsFrom_snoc:∀ (l:List Al.Var) (v:Al.Var) (k i:Int),Al.kindsFrom (l++[v]) k i=Al.kindsFrom l k i++(if v.kind=k then [i+l.length] else [])
 |[],v,k,i=>by simp only [List.nil_append,Al.kindsFrom,List.length_nil];split<;> simp
 |x :: l,v,k,i=>by
  simp only [List.cons_append,Al.kindsFrom,kindsFrom_snoc l v k (i+1),List.length_cons]
  have e:i+1+(l.length:Int)=i+((l.length+1:Nat):Int):=by omega
  rw [e]
  split<;> simp
theorem kindsFrom_len:∀ (l:List Al.Var) (k i:Int),(Al.kindsFrom l k i).length<=l.length
 |[],k,i=>by simp [Al.kindsFrom]
 |x :: l,k,i=>by simp only [Al.kindsFrom,List.length_cons];have:=kindsFrom_len l k (i+1);split<;> (try simp only [List.length_cons])<;> omega
theorem own_one {base:Nat}{e:TypeId}{w:World}{v:Value}{n:Nat}{xs:List Value}(h:w.ownsRow base e 1 v n xs):xs.length=n:=by have:=h.1;omega
theorem ref_kinds {w:World}{q n:Int}{vars:List Al.Var}{Va:Option Addr}{vc:Nat}(A6:Option Addr)(n6 c6:Nat)(hv:kVar.C w Va vars.length vars)(hvl:vars.length<=1000)(k:Int):
  Calls Tryz.prog 33 #[.agg #[.int .i64 q,.int .i64 n,.slice Va vars.length vc,.slice A6 n6 c6],.int .i64 k] w fun e w'=>∃ v,e= .returned v/\w'.ownsRow w.heap.size 3 1 v (Al.kindsOf vars k).length (intsV (Al.kindsOf vars k))/\Below w.heap.size w w':=by
 obtain⟨W,hW⟩:∃ W,W=w.alloc (.cells #[.int .i64 q,.int .i64 n,.slice Va vars.length vc,.slice A6 n6 c6] 27):=⟨_,rfl⟩
 have hb0:Below w.heap.size w W:=by rw [hW];exact (Below.refl _ _).alloc (Nat.le_refl _) _
 have h0:W.heap[w.heap.size]?=some (.cells #[.int .i64 q,.int .i64 n,.slice Va vars.length vc,.slice A6 n6 c6] 27 (0,0)):=by rw [hW];exact heap_alloc_new w _
 obtain⟨j0,hj0,jz0,jz1,jz2⟩:=info_parts Tryz.infoInt
 obtain⟨K,hK⟩:∃ K,K=Al.kindsOf vars k:=⟨_,rfl⟩
 rw [<-hK]
 replace hK:=Lib.hid hK
 have HV:=Lib.hid hv
 have H0:=Lib.hid h0
 have HB0:=Lib.hid hb0
 go_enter Tryz.func33,Tryz.ntmps33
 go_wp2_with fail
 rw [<-hW]
 clear hW hv h0 hb0
 go_loopg [5,6] (vars.length+1) (fun gk v5 v6 w'=>∃ i:Nat,v6= .int .i64 i/\i+gk=vars.length+1/\i<=vars.length/\Hid (w'.ownsRow w.heap.size 3 1 v5 (Al.kindsFrom (vars.take i) k 0).length (intsV (Al.kindsFrom (vars.take i) k 0))/\Below w.heap.size w w'/\w'.heap[w.heap.size]?=some (.cells #[.int .i64 q,.int .i64 n,.slice Va vars.length vc,.slice A6 n6 c6] 27 (0,0))))
 case atStart=>exact⟨0,rfl,by omega,by omega,show _/\_ from⟨World.ownsRow_nil _ _ _ _,HB0,H0⟩⟩
 case round=>
  obtain⟨i,rfl,hg,hi2,HR⟩:=hrel
  obtain⟨hown,hR,hbox⟩:=show wr.ownsRow w.heap.size 3 1 u5 (Al.kindsFrom (vars.take i) k 0).length (intsV (Al.kindsFrom (vars.take i) k 0))/\Below w.heap.size w wr/\wr.heap[w.heap.size]?=some (.cells #[.int .i64 q,.int .i64 n,.slice Va vars.length vc,.slice A6 n6 c6] 27 (0,0)) from HR
  obtain⟨kp,hkp⟩:∃ kp,kp=w.heap.size:=⟨_,rfl⟩
  have p2:wr.cell? ⟨w.heap.size,2,none⟩=some (.slice Va vars.length vc):=(cell_blk hbox _).trans rfl
  by_cases hil:i<vars.length
  ·obtain⟨k1,rfl⟩:∃ k1,gk=k1+1:=⟨gk - 1,by omega⟩
   obtain⟨ad,hVa,d0,_⟩:=at_T901 (show kVar.C w Va vars.length vars from HV) (i:Int) (by omega) (by omega)
   replace d0:=cell_since hR d0
   rw [hVa] at p2
   replace hVa:=Lib.hid hVa
   simp only [Int.toNat_natCast] at d0
   obtain⟨x,hx⟩:∃ x,x=(rd_T901 vars (i:Int)).kind:=⟨_,rfl⟩
   rw [<-hx] at d0
   have hnx:Al.kindsFrom (vars.take (i+1)) k 0=Al.kindsFrom (vars.take i) k 0++(if x=k then [(i:Int)] else []):=by
    rw [List.take_succ_eq_append_getElem hil,kindsFrom_snoc,List.length_take,Nat.min_eq_left (by omega),hx,rd_var vars i hil];simp
   replace hx:=Lib.hid hx
   have hkl:(Al.kindsFrom (vars.take i) k 0).length<=1000:=by have:=kindsFrom_len (vars.take i) k 0;have:=List.length_take_le i vars;omega
   have r0:(0:Int)<=(i:Int):=by omega
   have r1:(i:Int)<(vars.length:Int):=by omega
   have r2:decide ((i:Int)<(vars.length:Int))=true:=decide_eq_true r1
   clear HR hkp
   by_cases hxk:x=k
   ·have z:(x == k)=true:=by rw [hxk];exact beq_self_eq_true _
    rw [if_pos hxk] at hnx
    clear hxk
    obtain⟨L,hL⟩:∃ L,L=Al.kindsFrom (vars.take i) k 0:=⟨_,rfl⟩
    rw [<-hL] at hown hnx hkl
    replace hL:=Lib.hid hL
    replace hnx:=Lib.hid hnx
    have own1:=hown.alloc (.cells #[.int .i64 i] 3)
    have src1:=row_one wr hR.size (.int .i64 i) 3
    have bl1:Below w.heap.size w (wr.alloc (.cells #[.int .i64 i] 3)):=hR.alloc hR.size _
    have bx1:=alloc_blk (.cells #[.int .i64 i] 3) hbox
    have hne:=own_ne_blk own1 bx1 (by decide)
    go_wp2_with (first
     |(at_builtin;refine append_row rfl (.tmp 22) (.tmp 24) 86 rfl w.heap.size 3 j0 _ 1 8 Tryz.underlying86 hj0 jz0 jz1 jz2 rfl (by omega) _ _ _ rfl own1 w.heap.size _ _ _ rfl src1 (by intro u hu;rw [List.mem_singleton.1 hu];rfl) (by unfold maxLen;omega) (by omega) (by have:=hR.size;simp;omega) ?_;intro v1 w1 hown1 hgrow1;have hb1:=below_grown2 bl1 hgrow1 (fun k hk=>(own1.lt k hk).1) (by have:=hR.size;simp;omega);have hbx:w1.heap[w.heap.size]?=some (.cells #[.int .i64 q,.int .i64 n,.slice Va vars.length vc,.slice A6 n6 c6] 27 (0,0)):=by (rcases hgrow1 with rfl|hgrow1;exact bx1;exact grow_blk hgrow1 bx1 hne)))
    have HN:Hid (w1.ownsRow w.heap.size 3 1 v1 (Al.kindsFrom (vars.take (i+1)) k 0).length (intsV (Al.kindsFrom (vars.take (i+1)) k 0))/\Below w.heap.size w w1/\w1.heap[w.heap.size]?=some (.cells #[.int .i64 q,.int .i64 n,.slice Va vars.length vc,.slice A6 n6 c6] 27 (0,0))):=by
     refine show _/\_ from⟨?_,hb1,hbx⟩
     rw [show Al.kindsFrom (vars.take (i+1)) k 0=_ from hnx]
     simpa [intsV] using hown1
    clear hown1 hgrow1 hb1 hbx own1 src1 bl1 bx1 hne hown hbox
    go_roundg k1
    case measure=>omega
    case rel=>exact⟨i+1,by simp,by omega,by omega,HN⟩
   ·have z:(x == k)=false:=beq_false_of_ne hxk
    rw [if_neg hxk,List.append_nil] at hnx
    have HN:Hid (wr.ownsRow w.heap.size 3 1 u5 (Al.kindsFrom (vars.take (i+1)) k 0).length (intsV (Al.kindsFrom (vars.take (i+1)) k 0))/\Below w.heap.size w wr/\wr.heap[w.heap.size]?=some (.cells #[.int .i64 q,.int .i64 n,.slice Va vars.length vc,.slice A6 n6 c6] 27 (0,0))):=by rw [hnx];exact⟨hown,hR,hbox⟩
    clear hxk hnx hown hbox
    go_wp2_with fail
    go_roundg k1
    case measure=>omega
    case rel=>exact⟨i+1,by simp,by omega,by omega,HN⟩
  ·have hie:i=vars.length:=by omega
   have t1:decide ((i:Int)<(vars.length:Int))=false:=by simp;omega
   rw [show vars.take i=vars by rw [hie,List.take_length]] at hown
   have hKv:K=Al.kindsFrom vars k 0:=hK
   rw [<-hKv] at hown
   clear hKv HR
   go_wp2_with fail
   exact bodyPost_ret (v:=u5) (by simp [results,Tryz.results33,go_sem]) rfl ⟨_,rfl,hown,hR⟩
theorem intsC_get {w:World}{A:Option Addr}{n:Nat}{l:List Int}{kk:IntKind}(h:(Kd.int kk).C w A n l){j:Nat}(hj:j<n)(hl:j<l.length):∃ ad,A=some ad/\w.cell? (ad.add j)=some (.int kk l[j]):=by
 obtain⟨ad,c,e,_,hK,hc⟩:=Kd.C_get h 0 (j:Int) (by omega) (by omega)
 have hc0:c=[.int kk (l.getD (Int.toNat j) 0)]:=hK
 have h1:=hc 0 _ (by rw [hc0];rfl)
 refine⟨ad,e,?_⟩
 have e1:Int.toNat (j:Int) * (Kd.int kk).sz+0=j:=by show Int.toNat (j:Int) * 1+0=j;omega
 rw [e1,Int.toNat_natCast] at h1
 rw [h1]
 simp [List.getD_eq_getElem?_getD,hl]
def badN (q:Int)(x:Int):Bool:=decide (x<0\/x>=q)
theorem ref_vector {w:World}{q n:Int}{l:List Int}{A:Option Addr}{cap:Nat}(hl:(Kd.int .i64).C w A l.length l):
  Calls Tryz.prog 54 #[.agg #[.int .i64 q,.int .i64 n],.slice A l.length cap] w fun e w'=>e= .returned (.int .i64 (Al.vectorF q n l))/\Below w.heap.size w w':=by
 obtain⟨R,hR⟩:∃ R,R=Al.vectorF q n l:=⟨_,rfl⟩
 rw [<-hR]
 obtain⟨W,hW⟩:∃ W,W=w.alloc (.cells #[.int .i64 q,.int .i64 n] 23):=⟨_,rfl⟩
 have hb0:Below w.heap.size w W:=by rw [hW];exact (Below.refl _ _).alloc (Nat.le_refl _) _
 obtain⟨kp,hkp⟩:∃ kp,kp=w.heap.size:=⟨_,rfl⟩
 have h0:W.heap[kp]?=some (.cells #[.int .i64 q,.int .i64 n] 23 (0,0)):=by rw [hW,hkp];exact heap_alloc_new w _
 have hkl:=blk_lt h0
 have HV:=ref_ring W q n
 have HL:=Lib.hid hl
 clear hl
 go_enter Tryz.func54,Tryz.ntmps54
 go_wp2_with fail
 rw [<-hW]
 simp only [<-hkp]
 replace hkp:=Lib.hid hkp
 clear hW
 cases hro:Al.ringOk q n with
 |false=>
  rw [hro] at HV
  simp only [Bool.false_eq_true,if_false] at HV
  have hRv:=Lib.hid (show R=101 by rw [hR];unfold Al.vectorF;rw [hro];rfl)
  clear hR
  go_wp2_with (first|(go_at_call 84;refine HV.mono ?_;rintro e w1 ⟨rfl,hb1⟩))
  exact bodyPost_ret (v:= .int .i64 101) (by simp [results,Tryz.results54,go_sem]) rfl ⟨by rw [show R=101 from hRv],hb0.trans (lower_below hb1 hb0.size)⟩
 |true=>
  rw [hro] at HV
  simp only [if_true] at HV
  have hn:0<=n/\n<=256:=by
       have h2:Al.isSize n=true:=by (unfold Al.ringOk at hro;simp at hro;exact hro.2)
       have:=Al.size_facts h2;omega
  unfold Al.vectorF at hR
  rw [hro] at hR
  simp only [Bool.not_true,Bool.false_eq_true,if_false] at hR
  clear hro
  by_cases hln:(l.length:Int)=n
  ·rw [if_neg (by omega)] at hR
   have z:((l.length:Int) == n)=true:=by rw [hln];exact beq_self_eq_true _
   have z':((l.length:Int) !=n)=false:=by rw [hln];simp
   have hR':=Lib.hid hR
   clear hR
   have hl256:l.length<=256:=by omega
   have hlnh:=Lib.hid hln
   clear hln
   go_wp2_with (first|(go_at_call 84;refine HV.mono ?_;rintro e w1 ⟨rfl,hb1⟩;have v1:w1.cell? ⟨kp,1,none⟩=some (.int .i64 n):=(cell_blk (below_blk hb1 h0 hkl) _).trans rfl;have v0:w1.cell? ⟨kp,0,none⟩=some (.int .i64 q):=(cell_blk (below_blk hb1 h0 hkl) _).trans rfl))
   have hbb:Below w.heap.size w w1:=hb0.trans (lower_below hb1 hb0.size)
   have HI:Hid (w1.cell? ⟨kp,0,none⟩=some (.int .i64 q)/\Below w.heap.size w w1):=Lib.hid ⟨v0,hbb⟩
   clear v1 v0 hbb hb0 hb1 h0 HV hkl
   go_loopg [6] (l.length+1) (fun gk v6 w'=>∃ i:Nat,v6= .int .i64 i/\i+gk=l.length+1/\i<=l.length/\Hid ((l.take i).any (badN q)=false)/\Hid (w'.cell? ⟨kp,0,none⟩=some (.int .i64 q)/\Below w.heap.size w w'))
   case atStart=>exact⟨0,rfl,by omega,by omega,Lib.hid (by simp),HI⟩
   case round=>
    obtain⟨i,rfl,hg,hi2,HN,HW⟩:=hrel
    have hno:=show (l.take i).any (badN q)=false from HN
    obtain⟨v0,hbb⟩:=show wr.cell? ⟨kp,0,none⟩=some (.int .i64 q)/\Below w.heap.size w wr from HW
    clear HI HN HW
    by_cases hil:i<l.length
    ·obtain⟨k1,rfl⟩:∃ k1,gk=k1+1:=⟨gk - 1,by omega⟩
     obtain⟨ad,rfl,d0⟩:=intsC_get (show (Kd.int .i64).C w A l.length l from HL) hil hil
     replace d0:=cell_since hbb d0
     have hnx:(l.take (i+1)).any (badN q)=((l.take i).any (badN q) || badN q l[i]):=by rw [List.take_succ_eq_append_getElem hil,List.any_append];simp
     have hall:badN q l[i]=true->l.any (badN q)=true:=fun h=>List.any_eq_true.2 ⟨_,List.getElem_mem hil,h⟩
     obtain⟨x,hx⟩:∃ x,x=l[i]:=⟨_,rfl⟩
     rw [<-hx] at d0 hnx hall
     replace hx:=Lib.hid hx
     have r0:(0:Int)<=(i:Int):=by omega
     have r1:(i:Int)<(l.length:Int):=by omega
     have r2:decide ((i:Int)<(l.length:Int))=true:=decide_eq_true r1
     have hbd:∀ m,Below w.heap.size w (wr.drewN m):=fun m=>⟨hbb.os,hbb.tape,hbb.output,hbb.size,hbb.block⟩
     have v0d:∀ m,(wr.drewN m).cell? ⟨kp,0,none⟩=some (.int .i64 q):=fun m=>v0
     have hbad:∀ h:badN q x=true,R=101:=fun h=>by
      rw [show R=_ from hR',show (fun x=>decide (x<0\/x>=q))=badN q from rfl,hall h,if_pos rfl]
     by_cases c0:x<0
     ·have e0:decide (x<0)=true:=decide_eq_true c0
      have hRv:=Lib.hid (hbad (by unfold badN;exact decide_eq_true (.inl c0)))
      clear hall hnx hno hbad c0
      go_wp2_with fail
      go_quiet (fail)
      go_wp2_with fail
      exact bodyPost_ret (v:= .int .i64 101) (by simp [results,Tryz.results54,go_sem]) rfl ⟨by rw [show R=101 from hRv],hbd _⟩
     have e0:decide (x<0)=false:=decide_eq_false c0
     by_cases c1:q<=x
     ·have e1:decide (q<=x)=true:=decide_eq_true c1
      have hRv:=Lib.hid (hbad (by unfold badN;exact decide_eq_true (.inr c1)))
      clear hall hnx hno hbad c0 c1
      go_wp2_with fail
      go_quiet (fail)
      go_wp2_with fail
      exact bodyPost_ret (v:= .int .i64 101) (by simp [results,Tryz.results54,go_sem]) rfl ⟨by rw [show R=101 from hRv],hbd _⟩
     have e1:decide (q<=x)=false:=decide_eq_false c1
     have ho:badN q x=false:=by unfold badN;exact decide_eq_false (by omega)
     rw [hno,ho] at hnx
     have HNX:=Lib.hid hnx
     have HI2:∀ m,Hid ((wr.drewN m).cell? ⟨kp,0,none⟩=some (.int .i64 q)/\Below w.heap.size w (wr.drewN m)):=fun m=>Lib.hid ⟨v0d m,hbd m⟩
     clear hall hnx hno hbad c0 c1 ho hbd
     go_wp2_with fail
     go_quiet (fail)
     go_wp2_with fail
     go_roundg k1
     case measure=>omega
     case rel=>exact⟨i+1,by simp,by omega,by omega,HNX,HI2 _⟩
    ·have hie:i=l.length:=by omega
     have t1:decide ((i:Int)<(l.length:Int))=false:=by simp;omega
     rw [show l.take i=l by rw [hie,List.take_length]] at hno
     have hRv:=Lib.hid (show R=0 by rw [show R=_ from hR',show (fun x=>decide (x<0\/x>=q))=badN q from rfl,hno];rfl)
     clear hno
     go_wp2_with fail
     exact bodyPost_ret (v:= .int .i64 0) (by simp [results,Tryz.results54,go_sem]) rfl ⟨by rw [show R=0 from hRv],hbb⟩
  ·rw [if_pos hln] at hR
   have z:((l.length:Int) == n)=false:=beq_false_of_ne hln
   have z':((l.length:Int) !=n)=true:=by simp [hln]
   have hRv:=Lib.hid hR
   clear hR hln
   go_wp2_with (first|(go_at_call 84;refine HV.mono ?_;rintro e w1 ⟨rfl,hb1⟩;have v1:w1.cell? ⟨kp,1,none⟩=some (.int .i64 n):=(cell_blk (below_blk hb1 h0 hkl) _).trans rfl))
   exact bodyPost_ret (v:= .int .i64 102) (by simp [results,Tryz.results54,go_sem]) rfl ⟨by rw [show R=102 from hRv],hb0.trans (lower_below hb1 hb0.size)⟩
theorem set3 {w:World}{k:Nat}{t:TypeId}{a0 a1 a2:Value}(h:w.heap[k]?=some (.cells #[a0,a1,a2] t (0,0)))(x0 x1 x2:Value):
  (((w.setCell ⟨k,0,none⟩ x0).setCell ⟨k,1,none⟩ x1).setCell ⟨k,2,none⟩ x2).heap[k]?=some (.cells #[x0,x1,x2] t (0,0)):=by
 have h1:=set_blk h 0 x0
 have h2:=set_blk h1 1 x1
 have h3:=set_blk h2 2 x2
 simpa using h3
theorem below_set3 {B k:Nat}{w W:World}{x0 x1 x2:Value}(hb:Below B w W)(hk:B<=k):Below B w (((W.setCell ⟨k,0,none⟩ x0).setCell ⟨k,1,none⟩ x1).setCell ⟨k,2,none⟩ x2):=below_set (below_set (below_set hb hk) hk) hk
structure IB (w:World)(kq kr:Nat)(q n:Int):Prop where
 q:w.heap[kq]?=some (.cells #[.int .i64 q,.int .i64 n] 23 (0,0))
 r:w.heap[kr]?=some (.cells #[.int .i64 0,.bool false,.int .i64 0] 36 (0,0))
theorem IB.below {w w':World}{kq kr:Nat}{q n:Int}(h:IB w kq kr q n)(hb:Below w.heap.size w w'):IB w' kq kr q n:=⟨below_blk hb h.q (blk_lt h.q),below_blk hb h.r (blk_lt h.r)⟩
theorem IB.drew {w:World}{kq kr:Nat}{q n:Int}(h:IB w kq kr q n):IB w.drew kq kr q n:=⟨h.q,h.r⟩
theorem IB.facts {w:World}{kq kr:Nat}{q n:Int}(h:IB w kq kr q n):w.cell? ⟨kr,0,none⟩=some (.int .i64 0)/\w.cell? ⟨kr,1,none⟩=some (.bool false)/\w.cell? ⟨kr,2,none⟩=some (.int .i64 0)/\w.frozen? ⟨kr,0,none⟩=false/\w.frozen? ⟨kr,1,none⟩=false/\w.frozen? ⟨kr,2,none⟩=false:=
 ⟨(cell_blk h.r _).trans rfl,(cell_blk h.r _).trans rfl,(cell_blk h.r _).trans rfl,frozen_blk h.r _,frozen_blk h.r _,frozen_blk h.r _⟩
theorem IB.ring {w:World}{kq kr:Nat}{q n:Int}(h:IB w kq kr q n):w.cell? ⟨kq,0,none⟩=some (.int .i64 q)/\w.cell? ⟨kq,1,none⟩=some (.int .i64 n):=⟨(cell_blk h.q _).trans rfl,(cell_blk h.q _).trans rfl⟩
theorem none_lit (w:World):Calls Tryz.prog 52 #[] w fun e w'=>e= .returned (.agg #[.int .i64 0,.bool false,.int .i64 0])/\Below w.heap.size w w':=ref_none w
theorem bare_lit (w:World)(c:Int):Calls Tryz.prog 53 #[.int .i64 c] w fun e w'=>e= .returned (.agg #[.int .i64 c,.bool false,.int .i64 0])/\Below w.heap.size w w':=ref_bare w c
theorem placed_lit (w:World)(c i:Int)(hc:c≠0):Calls Tryz.prog 51 #[.int .i64 c,.int .i64 i] w fun e w'=>e= .returned (.agg #[.int .i64 c,.bool true,.int .i64 i])/\Below w.heap.size w w':=ref_placed w c i hc
theorem ref_inputs {w:World}{q n:Int}{vars:List Al.Var}{ins:List (List Int)}{tape:List Int}{Va Ia Ta:Option Addr}{vc ic tc:Nat}(fuel:Int)(hv:kVar.C w Va vars.length vars)(hvl:vars.length<=1000)(hi:Kd.C (Kd.slice 3 (Kd.int .i64)) w Ia ins.length ins)(hil:ins.length<=1000000):
  Calls Tryz.prog 21 #[.agg #[.int .i64 q,.int .i64 n],.slice Va vars.length vc,.slice Ia ins.length ic,.slice Ta tape.length tc,.int .i64 fuel] w fun e w'=>e= .returned (faultV (Al.inputsF q n vars ins tape fuel))/\Below w.heap.size w w':=by
 obtain⟨R,hR⟩:∃ R,R=Al.inputsF q n vars ins tape fuel:=⟨_,rfl⟩
 rw [<-hR]
 obtain⟨W,hW⟩:∃ W,W=((w.alloc (.cells #[.int .i64 q,.int .i64 n] 23)).alloc (.cells #[.int .i64 0,.bool false,.int .i64 0] 36)).alloc (.cells #[.int .i64 q,.int .i64 n,.slice Va vars.length vc,.slice none 0 0] 27):=⟨_,rfl⟩
 have hb0:Below w.heap.size w W:=by rw [hW];exact (alloc_two w _ _).alloc (by simp;omega) _
 obtain⟨kq,hkq⟩:∃ kq,kq=w.heap.size:=⟨_,rfl⟩
 have I0:IB W kq (kq+1) q n:=by
  rw [hW,hkq]
  exact⟨alloc_blk _ (alloc_blk _ (heap_alloc_new w _)),alloc_blk _ (alloc_at _ _ _)⟩
 have HK:=ref_kinds (w:=W) (q:=q) (n:=n) (vc:=vc) none 0 0 (Kd.C_below hv hb0) hvl 1
 have hkl:=kindsFrom_len vars 1 0
 obtain⟨K,hK⟩:∃ K,K=Al.kindsOf vars 1:=⟨_,rfl⟩
 rw [<-hK] at HK
 unfold Al.inputsF at hR
 rw [<-hK] at hR
 have hKl:K.length<=1000:=by rw [hK];unfold Al.kindsOf;omega
 replace hK:=Lib.hid hK
 clear hkl
 have HI:=Lib.hid hi
 go_enter Tryz.func21,Tryz.ntmps21
 go_wp2_with fail
 rw [<-hW]
 simp only [<-hkq]
 clear hW hv
 have hkr:w.heap.size<=kq+1:=by rw [hkq];omega
 replace hkq:=Lib.hid hkq
 by_cases cl:(ins.length:Int)=K.length
 ·rw [if_neg (by omega)] at hR
  have z:((ins.length:Int) !=(K.length:Int))=false:=by simp [cl]
  have z':((ins.length:Int) == (K.length:Int))=true:=by simp [cl]
  have hR':=Lib.hid hR
  clear hR cl
  go_wp2_with (first|(go_at_call 33;refine HK.mono ?_;rintro e w1 ⟨vk,rfl,hown,hb1⟩;obtain⟨ka,kc,rfl⟩:=own_slice hown;have I1:=I0.below hb1;have hbb:=hb0.trans (lower_below hb1 hb0.size)))
  have HH:Hid (IB w1 kq (kq+1) q n/\Below w.heap.size w w1):=Lib.hid ⟨I1,hbb⟩
  clear I1 hbb hb1 hown I0 hb0 HK
  obtain⟨FV,hFV⟩:∃ FV,FV=Al.firstV q n ins 0:=⟨_,rfl⟩
  have hR0:=show R=_ from hR'
  rw [<-hFV] at hR0
  have hR':=Lib.hid hR0
  clear hR0
  replace hFV:=Lib.hid hFV
  go_loopg [12,13] (ins.length+1) (fun gk v12 v13 w'=>∃ i:Nat,v12= .int .i64 i/\i+gk=ins.length+1/\i<=ins.length/\Hid (FV=Al.firstV q n (ins.drop i) i)/\Hid (IB w' kq (kq+1) q n/\Below w.heap.size w w'))
  case atStart=>exact⟨0,rfl,by omega,by omega,Lib.hid (show FV=_ from hFV),HH⟩
  case round=>
   obtain⟨i,rfl,hg,hi2,HF,HW⟩:=hrel
   have hF:=show FV=Al.firstV q n (ins.drop i) i from HF
   obtain⟨I1,hbb⟩:=show IB wr kq (kq+1) q n/\Below w.heap.size w wr from HW
   obtain⟨q0,q1⟩:=I1.ring
   clear HH HF HW
   by_cases hil:i<ins.length
   ·obtain⟨k1,rfl⟩:∃ k1,gk=k1+1:=⟨gk - 1,by omega⟩
    obtain⟨ad,A0,c0,rfl,d0,l0,g0⟩:=at_L4 (show Kd.C (Kd.slice 3 (Kd.int .i64)) w Ia ins.length ins from HI) (i:Int) (by omega) (by omega)
    simp only [Int.toNat_natCast] at d0
    replace d0:=cell_since hbb d0
    rw [List.drop_eq_getElem_cons hil] at hF
    unfold Al.firstV at hF
    have hx0:rd_L4 ins (i:Int)=ins[i]:=by unfold rd_L4;simp [List.getD_eq_getElem?_getD,hil]
    rw [hx0] at d0 l0 g0
    obtain⟨x,hx⟩:∃ x,x=ins[i]:=⟨_,rfl⟩
    rw [<-hx] at d0 l0 g0 hF
    clear hx hx0
    have HV:=fun (W:World) (hb:Below w.heap.size w W)=>ref_vector (w:=W) (q:=q) (n:=n) (cap:=c0) (Kd.C_below g0 hb)
    have hbd:=below_drew' hbb
    have HVd:=HV wr.drew hbd
    clear g0 HV
    obtain⟨vf,hvf⟩:∃ vf,vf=Al.vectorF q n x:=⟨_,rfl⟩
    rw [<-hvf] at HVd hF
    clear hvf
    have r0:(0:Int)<=(i:Int):=by omega
    have r1:(i:Int)<(ins.length:Int):=by omega
    have r2:decide ((i:Int)<(ins.length:Int))=true:=decide_eq_true r1
    by_cases hz:vf=0
    ·subst hz
     simp only [ne_eq,not_true,if_false] at hF
     have HF:Hid (FV=Al.firstV q n (ins.drop (i+1)) ((i+1:Nat):Int)):=Lib.hid (by rw [Int.natCast_add];exact hF)
     clear hF
     have z0:((0:Int) !=0)=false:=by decide
     go_wp2_with fail
     go_still_tail 5,(by kernel_rfl)
     go_wp2_with (first|(go_at_call 54;refine HVd.mono ?_;rintro e w2 ⟨rfl,hb2⟩;replace hb2:=undrew hb2))
     have HH2:Hid (IB w2 kq (kq+1) q n/\Below w.heap.size w w2):=Lib.hid ⟨I1.below hb2,hbb.trans (lower_below hb2 hbb.size)⟩
     clear hb2 I1 hbb q0 q1 d0 HVd hbd
     go_roundg k1
     case measure=>omega
     case rel=>exact⟨i+1,by simp,by omega,by omega,HF,HH2⟩
    ·rw [if_pos hz] at hF
     have hRR:=show R=_ from hR'
     rw [if_pos (by rw [hF];exact hz),hF] at hRR
     have hRv:=Lib.hid hRR
     have z0:(vf !=0)=true:=by simp [hz]
     have z0':(vf == 0)=false:=by simp [hz]
     clear hRR hF
     have HP:=fun w0=>placed_lit w0 vf (i:Int) hz
     clear hz
     go_wp2_with fail
     go_still_tail 5,(by kernel_rfl)
     go_wp2_with (first|(go_at_call 54;refine HVd.mono ?_;rintro e w2 ⟨rfl,hb2⟩;replace hb2:=undrew hb2;have I2:=I1.below hb2;have hb3:=hbb.trans (lower_below hb2 hbb.size))|(go_at_call 51;refine (HP _).mono ?_;rintro e w9 ⟨rfl,hb9⟩;have I9:=I2.below hb9;obtain⟨z0,z1,z2,y0,y1,y2⟩:=I9.facts;have hb10:=hb3.trans (lower_below hb9 hb3.size);have F9:=set3 I9.r (.int .i64 vf) (.bool true) (.int .i64 i)))
     refine gen_world (Q:=fun W=>bodyPost _ _ _ _ _ W) _ (fun W=>W.heap[kq+1]?=some (.cells #[.int .i64 vf,.bool true,.int .i64 i] 36 (0,0))/\Below w.heap.size w W) ⟨F9,below_set3 hb10 hkr⟩ ?_
     clear F9 hb10 hb9 I9 z0 z1 z2 y0 y1 y2
     rintro W9 ⟨F,HB⟩
     have c0:W9.cell? ⟨kq+1,0,none⟩=some (.int .i64 vf):=(cell_blk F _).trans rfl
     have c1:W9.cell? ⟨kq+1,1,none⟩=some (.bool true):=(cell_blk F _).trans rfl
     have c2:W9.cell? ⟨kq+1,2,none⟩=some (.int .i64 i):=(cell_blk F _).trans rfl
     exact bodyPost_ret (v:= .agg #[.int .i64 vf,.bool true,.int .i64 i]) (by simp [results,Tryz.results21,go_sem,c0,c1,c2]) rfl ⟨by rw [show R=_ from hRv];rfl,HB⟩
   ·have hie:i=ins.length:=by omega
    have t1:decide ((i:Int)<(ins.length:Int))=false:=by simp;omega
    have hRR:=show R=_ from hR'
    rw [hie,List.drop_length] at hF
    rw [if_neg (by rw [hF];simp [Al.firstV,Al.Fault.fine])] at hRR
    clear hF
    by_cases ct:(4096:Int)<tape.length
    ·rw [if_pos (by omega)] at hRR
     have t2:decide ((4096:Int)<(tape.length:Int))=true:=decide_eq_true ct
     have hRv:=Lib.hid hRR
     clear hRR
     go_wp2_with (first|(go_at_call 53;refine (bare_lit _ 102).mono ?_;rintro e w9 ⟨rfl,hb9⟩;have I9:=I1.below hb9;obtain⟨z0,z1,z2,y0,y1,y2⟩:=I9.facts;have hb10:=hbb.trans (lower_below hb9 hbb.size);have F9:=set3 I9.r (.int .i64 102) (.bool false) (.int .i64 0)))
     refine gen_world (Q:=fun W=>bodyPost _ _ _ _ _ W) _ (fun W=>W.heap[kq+1]?=some (.cells #[.int .i64 102,.bool false,.int .i64 0] 36 (0,0))/\Below w.heap.size w W) ⟨F9,below_set3 hb10 hkr⟩ ?_
     clear F9 hb10 hb9 I9 z0 z1 z2 y0 y1 y2
     rintro W9 ⟨F,HB⟩
     have c0:W9.cell? ⟨kq+1,0,none⟩=some (.int .i64 102):=(cell_blk F _).trans rfl
     have c1:W9.cell? ⟨kq+1,1,none⟩=some (.bool false):=(cell_blk F _).trans rfl
     have c2:W9.cell? ⟨kq+1,2,none⟩=some (.int .i64 0):=(cell_blk F _).trans rfl
     exact bodyPost_ret (v:= .agg #[.int .i64 102,.bool false,.int .i64 0]) (by simp [results,Tryz.results21,go_sem,c0,c1,c2]) rfl ⟨by rw [show R=_ from hRv];rfl,HB⟩
    rw [if_neg (by omega)] at hRR
    have t2:decide ((4096:Int)<(tape.length:Int))=false:=decide_eq_false ct
    by_cases cf:fuel<0
    ·rw [if_pos (.inl cf)] at hRR
     have t3:decide (fuel<0)=true:=decide_eq_true cf
     have hRv:=Lib.hid hRR
     clear hRR
     go_wp2_with (first|(go_at_call 53;refine (bare_lit _ 101).mono ?_;rintro e w9 ⟨rfl,hb9⟩;have I9:=I1.below hb9;obtain⟨z0,z1,z2,y0,y1,y2⟩:=I9.facts;have hb10:=hbb.trans (lower_below hb9 hbb.size);have F9:=set3 I9.r (.int .i64 101) (.bool false) (.int .i64 0)))
     refine gen_world (Q:=fun W=>bodyPost _ _ _ _ _ W) _ (fun W=>W.heap[kq+1]?=some (.cells #[.int .i64 101,.bool false,.int .i64 0] 36 (0,0))/\Below w.heap.size w W) ⟨F9,below_set3 hb10 hkr⟩ ?_
     clear F9 hb10 hb9 I9 z0 z1 z2 y0 y1 y2
     rintro W9 ⟨F,HB⟩
     have c0:W9.cell? ⟨kq+1,0,none⟩=some (.int .i64 101):=(cell_blk F _).trans rfl
     have c1:W9.cell? ⟨kq+1,1,none⟩=some (.bool false):=(cell_blk F _).trans rfl
     have c2:W9.cell? ⟨kq+1,2,none⟩=some (.int .i64 0):=(cell_blk F _).trans rfl
     exact bodyPost_ret (v:= .agg #[.int .i64 101,.bool false,.int .i64 0]) (by simp [results,Tryz.results21,go_sem,c0,c1,c2]) rfl ⟨by rw [show R=_ from hRv];rfl,HB⟩
    have t3:decide (fuel<0)=false:=decide_eq_false cf
    by_cases cg:(1073741824:Int)<fuel
    ·rw [if_pos (.inr cg)] at hRR
     have t4:decide ((1073741824:Int)<fuel)=true:=decide_eq_true cg
     have hRv:=Lib.hid hRR
     clear hRR
     go_wp2_with (first|(go_at_call 53;refine (bare_lit _ 101).mono ?_;rintro e w9 ⟨rfl,hb9⟩;have I9:=I1.below hb9;obtain⟨z0,z1,z2,y0,y1,y2⟩:=I9.facts;have hb10:=hbb.trans (lower_below hb9 hbb.size);have F9:=set3 I9.r (.int .i64 101) (.bool false) (.int .i64 0)))
     refine gen_world (Q:=fun W=>bodyPost _ _ _ _ _ W) _ (fun W=>W.heap[kq+1]?=some (.cells #[.int .i64 101,.bool false,.int .i64 0] 36 (0,0))/\Below w.heap.size w W) ⟨F9,below_set3 hb10 hkr⟩ ?_
     clear F9 hb10 hb9 I9 z0 z1 z2 y0 y1 y2
     rintro W9 ⟨F,HB⟩
     have c0:W9.cell? ⟨kq+1,0,none⟩=some (.int .i64 101):=(cell_blk F _).trans rfl
     have c1:W9.cell? ⟨kq+1,1,none⟩=some (.bool false):=(cell_blk F _).trans rfl
     have c2:W9.cell? ⟨kq+1,2,none⟩=some (.int .i64 0):=(cell_blk F _).trans rfl
     exact bodyPost_ret (v:= .agg #[.int .i64 101,.bool false,.int .i64 0]) (by simp [results,Tryz.results21,go_sem,c0,c1,c2]) rfl ⟨by rw [show R=_ from hRv];rfl,HB⟩
    have t4:decide ((1073741824:Int)<fuel)=false:=decide_eq_false cg
    rw [if_neg (by omega)] at hRR
    have hRv:=Lib.hid hRR
    clear hRR
    go_wp2_with (first|(go_at_call 52;refine (none_lit _).mono ?_;rintro e w9 ⟨rfl,hb9⟩;have I9:=I1.below hb9;obtain⟨z0,z1,z2,y0,y1,y2⟩:=I9.facts;have hb10:=hbb.trans (lower_below hb9 hbb.size);have F9:=set3 I9.r (.int .i64 0) (.bool false) (.int .i64 0)))
    refine gen_world (Q:=fun W=>bodyPost _ _ _ _ _ W) _ (fun W=>W.heap[kq+1]?=some (.cells #[.int .i64 0,.bool false,.int .i64 0] 36 (0,0))/\Below w.heap.size w W) ⟨F9,below_set3 hb10 hkr⟩ ?_
    clear F9 hb10 hb9 I9 z0 z1 z2 y0 y1 y2
    rintro W9 ⟨F,HB⟩
    have c0:W9.cell? ⟨kq+1,0,none⟩=some (.int .i64 0):=(cell_blk F _).trans rfl
    have c1:W9.cell? ⟨kq+1,1,none⟩=some (.bool false):=(cell_blk F _).trans rfl
    have c2:W9.cell? ⟨kq+1,2,none⟩=some (.int .i64 0):=(cell_blk F _).trans rfl
    exact bodyPost_ret (v:= .agg #[.int .i64 0,.bool false,.int .i64 0]) (by simp [results,Tryz.results21,go_sem,c0,c1,c2]) rfl ⟨by rw [show R=_ from hRv];rfl,HB⟩
 ·rw [if_pos (by omega)] at hR
  have z:((ins.length:Int) !=(K.length:Int))=true:=by simp [cl]
  have z':((ins.length:Int) == (K.length:Int))=false:=by simp [cl]
  have hR':=Lib.hid hR
  clear hR cl
  go_wp2_with (first|(go_at_call 33;refine HK.mono ?_;rintro e w1 ⟨vk,rfl,hown,hb1⟩;obtain⟨ka,kc,rfl⟩:=own_slice hown;have I1:=I0.below hb1;have hbb:=hb0.trans (lower_below hb1 hb0.size))|(go_at_call 53;refine (bare_lit _ 102).mono ?_;rintro e w9 ⟨rfl,hb9⟩;have I9:=I1.below hb9;obtain⟨z0,z1,z2,y0,y1,y2⟩:=I9.facts;have hb10:=hbb.trans (lower_below hb9 hbb.size);have F9:=set3 I9.r (.int .i64 102) (.bool false) (.int .i64 0)))
  refine gen_world (Q:=fun W=>bodyPost _ _ _ _ _ W) _ (fun W=>W.heap[kq+1]?=some (.cells #[.int .i64 102,.bool false,.int .i64 0] 36 (0,0))/\Below w.heap.size w W) ⟨F9,below_set3 hb10 hkr⟩ ?_
  clear F9 hb10 hb9 I9 z0 z1 z2 y0 y1 y2
  rintro W9 ⟨F,HB⟩
  have c0:W9.cell? ⟨kq+1,0,none⟩=some (.int .i64 102):=(cell_blk F _).trans rfl
  have c1:W9.cell? ⟨kq+1,1,none⟩=some (.bool false):=(cell_blk F _).trans rfl
  have c2:W9.cell? ⟨kq+1,2,none⟩=some (.int .i64 0):=(cell_blk F _).trans rfl
  exact bodyPost_ret (v:= .agg #[.int .i64 102,.bool false,.int .i64 0]) (by simp [results,Tryz.results21,go_sem,c0,c1,c2]) rfl ⟨by rw [show R=_ from hR'];rfl,HB⟩
def wordsV (l:List Int):List Value:=l.map (Value.int .u64)
theorem wordsV_snoc (l:List Int)(x:Int):wordsV (l++[x])=wordsV l++[.int .u64 x]:=by simp [wordsV]
theorem wordsV_set (l:List Int)(j:Nat)(x:Int):(wordsV l).set j (.int .u64 x)=wordsV (l.set j x):=by simp [wordsV,List.map_set]
theorem made_words (n:Nat):(madeCells (Value.int .u64 0).cells (n * 1)).toList=wordsV (List.replicate n 0):=by
 have e:(Value.int .u64 0).cells= #[.int .u64 0]:=rfl
 rw [e,Nat.mul_one]
 apply List.ext_getElem
 ·simp [madeCells,wordsV]
 ·intro j h1 h2
  simp [madeCells,wordsV,Nat.mod_one]
theorem Tryz.infoU64:(Tryz.prog.info? 56).map (fun i=>(i.zero,i.size,i.bytes))=some (some (.int .u64 0),1,8):=by kernel_rfl
theorem words_get {w:World}{base:Nat}{a:Option Addr}{cap n:Nat}{M:List Int}(h:w.ownsRow base 56 1 (.slice a n cap) n (wordsV M)){j:Nat}(hj:j<M.length)(hn:n=M.length):
  ∃ g,a=some ⟨g,0,none⟩/\w.cell? ⟨g,j,none⟩=some (.int .u64 M[j])/\w.frozen? ⟨g,j,none⟩=false:=by
 subst hn
 obtain⟨g,c,hv,hgb,hgl⟩:=h.form (by omega)
 simp only [Value.slice.injEq] at hv
 obtain⟨rfl, -,rfl⟩:=hv
 refine⟨g,rfl,?_,h.frozenAt _⟩
 rw [h.cellAt _ (by omega)]
 simp [wordsV,hj]
theorem below_grown0 {w w':World}(hg:w.grownBy w' none):Below w.heap.size w w':=below_grown (Below.refl _ _) hg (fun k hk=>by cases hk) (Nat.le_refl _)
theorem ref_words {w:World}{base:Nat}{a:Option Addr}{cap:Nat}{M:List Int}(h:w.ownsRow base 56 1 (.slice a M.length cap) M.length (wordsV M))(hM:M.length<=1000000):
  Calls Tryz.prog 42 #[.slice a M.length cap] w fun e w'=>∃ v,e= .returned v/\w'.ownsRow w.heap.size 56 1 v M.length (wordsV M)/\Below w.heap.size w w':=by
 obtain⟨j0,hj0,jz0,jz1,jz2⟩:=info_parts Tryz.infoU64
 have H:=Lib.hid h
 clear h
 go_enter Tryz.func42,Tryz.ntmps42
 go_wp2_with (first
  |(at_make;refine wpList_make_own _ rfl _ _ 47 rfl w.heap.size 56 j0 (.int .u64 0) 1 Tryz.underlying47 hj0 jz0 jz1 .i64 .i64 _ M.length rfl rfl rfl (by rw [jz2];omega) (by unfold maxLen;omega) (Nat.le_refl _) ?_;intro w1 hown1 hgrow1))
 have HH:Hid (w1.ownsRow w.heap.size 56 1 (.slice (some ⟨w.heap.size,0,none⟩) 0 M.length) 0 []/\Below w.heap.size w w1):=Lib.hid ⟨hown1,below_grown0 hgrow1⟩
 clear hown1 hgrow1
 go_loopg [3,4] (M.length+1) (fun gk v3 v4 w'=>∃ i:Nat,v4= .int .i64 i/\i+gk=M.length+1/\i<=M.length/\Hid (w'.ownsRow w.heap.size 56 1 v3 i (wordsV (M.take i))/\Below w.heap.size w w'))
 case atStart=>exact⟨0,rfl,by omega,by omega,HH⟩
 case round=>
  obtain⟨i,rfl,hg,hi2,HR⟩:=hrel
  obtain⟨hown,hR⟩:=show wr.ownsRow w.heap.size 56 1 u3 i (wordsV (M.take i))/\Below w.heap.size w wr from HR
  clear HH HR
  by_cases hil:i<M.length
  ·obtain⟨k1,rfl⟩:∃ k1,gk=k1+1:=⟨gk - 1,by omega⟩
   obtain⟨g,rfl,d0,_⟩:=words_get (show w.ownsRow base 56 1 (.slice a M.length cap) M.length (wordsV M) from H) hil rfl
   replace d0:=cell_since hR d0
   have hnx:wordsV (M.take (i+1))=wordsV (M.take i)++[.int .u64 M[i]]:=by rw [List.take_succ_eq_append_getElem hil,wordsV_snoc]
   obtain⟨x,hx⟩:∃ x,x=M[i]:=⟨_,rfl⟩
   rw [<-hx] at d0 hnx
   replace hx:=Lib.hid hx
   have r0:(0:Int)<=(i:Int):=by omega
   have r1:(i:Int)<(M.length:Int):=by omega
   have r2:decide ((i:Int)<(M.length:Int))=true:=decide_eq_true r1
   have own1:=hown.alloc (.cells #[.int .u64 x] 56)
   have src1:=row_one wr hR.size (.int .u64 x) 56
   have bl1:Below w.heap.size w (wr.alloc (.cells #[.int .u64 x] 56)):=hR.alloc hR.size _
   replace hnx:=Lib.hid hnx
   go_wp2_with (first
    |(at_builtin;(refine append_row rfl (.tmp 14) (.tmp 19) 47 rfl w.heap.size 56 j0 _ 1 8 Tryz.underlying47 hj0 jz0 jz1 jz2 rfl (by omega) _ _ _ rfl own1 w.heap.size _ _ _ rfl src1 (by intro u hu;rw [List.mem_singleton.1 hu];rfl) (by unfold maxLen;omega) (by omega) (by have:=hR.size;simp;omega) ?_);intro v1 w1 hown1 hgrow1;have hb1:=below_grown2 bl1 hgrow1 (fun k hk=>(own1.lt k hk).1) (by have:=hR.size;simp;omega)))
   have HN:Hid (w1.ownsRow w.heap.size 56 1 v1 (i+1) (wordsV (M.take (i+1)))/\Below w.heap.size w w1):=by
    refine show _/\_ from⟨?_,hb1⟩
    rw [show wordsV (M.take (i+1))=_ from hnx]
    exact hown1
   clear hown1 hgrow1 hb1 own1 src1 bl1 hown d0
   go_roundg k1
   case measure=>omega
   case rel=>exact⟨i+1,by simp,by omega,by omega,HN⟩
  ·have hie:i=M.length:=by omega
   have t1:decide ((i:Int)<(M.length:Int))=false:=by simp;omega
   rw [show M.take i=M by rw [hie,List.take_length],hie] at hown
   go_wp2_with fail
   exact bodyPost_ret (v:=u3) (by simp [results,Tryz.results42,go_sem]) rfl ⟨_,rfl,hown,hR⟩
end Go.Proofs.YtkplfaionpplaaaGreatDoor
