/- Part 30: B81, B82, B83, B84, B90, B114, B66, B98, B99. -/
import Derived.Test.YtkplfaionpplaaaGreatDoorK29
set_option maxRecDepth 100000
set_option maxHeartbeats 6400000
set_option linter.unusedVariables false
set_option linter.unusedSimpArgs false
namespace Go.Proofs.YtkplfaionpplaaaGreatDoor
open Go.RowKit Go.Proofs.YtkplfaionpplaaaGreatDoorW.PrintWords
theorem KK.undrew {w w':World}(h:KK w.drew w'):KK w w':=h
def rs0 (T:List Int)(V:Al.Vs):Al.RS:=⟨T,V,0,0,[],false,0⟩
structure VrB (w0 w:World)(C:XC)(m:Nat)(vv:Value)(cs:List Value):Prop where
 blk:w.heap[C.kx]?=some (.cells (C.cells (rs0 C.tape fun _ _=>0) vv (.slice none 0 0)) 85 (0,0))
 vo:w.ownsRow w0.heap.size 86 1 vv m cs
 vr:∀ i,i<m->∃ v,cs[i]?=some v/\w.ownsRow w0.heap.size 3 1 v C.n (vecV C.n fun _=>0)
 b:Below w0.heap.size w0 w
 hx:w0.heap.size<=C.kx
theorem VrB.done {w0 w:World}{C:XC}{vv:Value}{cs:List Value}(h:VrB w0 w C C.nv vv cs):XW w0 w C (rs0 C.tape fun _ _=>0) vv (.slice none 0 0) cs []:=
 ⟨h.blk,h.vo,h.vr,World.ownsRow_nil _ _ _ _,rfl,h.b,h.hx,rfl⟩
theorem VrB.drew {w0 w:World}{C:XC}{m:Nat}{vv:Value}{cs:List Value}(h:VrB w0 w C m vv cs):VrB w0 w.drew C m vv cs:=⟨h.blk,h.vo,h.vr,below_drew' h.b,h.hx⟩
theorem VrB.alloc {w0 w:World}{C:XC}{m:Nat}{vv:Value}{cs:List Value}(h:VrB w0 w C m vv cs)(o:Obj):VrB w0 (w.alloc o) C m vv cs:=
 ⟨alloc_blk _ h.blk,h.vo.alloc _,fun i hi=>by obtain⟨v,h1,h2⟩:=h.vr i hi;exact⟨v,h1,h2.alloc _⟩,h.b.alloc h.b.size _,h.hx⟩
theorem VrB.add {w0 w w1:World}{C:XC}{m:Nat}{vv v v1:Value}{cs:List Value}(h:VrB w0 w C m vv cs)(hv:w.ownsRow w0.heap.size 3 1 v C.n (vecV C.n fun _=>0))(ho:w1.ownsRow w0.heap.size 86 1 v1 (m+1) (cs++[v]))(hg:w.grownBy w1 vv.ownBlock):
  VrB w0 (w1.setCell ⟨C.kx,4,none⟩ v1) C (m+1) v1 (cs++[v])/\w1.cell? ⟨C.kx,4,none⟩=some vv/\w1.frozen? ⟨C.kx,4,none⟩=false/\KK w (w1.setCell ⟨C.kx,4,none⟩ v1):=by
 have r1:w1.heap[C.kx]?=_:=grow_blk hg h.blk (own_ne_blk h.vo h.blk (by decide))
 have f:Keeps w (w1.setCell ⟨C.kx,4,none⟩ v1) 3:=(Keeps.grown hg fun k hk=>by obtain⟨c,hc⟩:=own_type h.vo hk;exact⟨c,_,hc,by decide⟩).trans (Keeps.set r1 (by decide) 4 v1)
 have hl:=h.vo.1
 refine⟨⟨set_blk r1 4 v1,own_keeps ho (Keeps.set r1 (by decide) 4 v1),fun i hi=>?_,below_set (below_grown2 h.b (.inr hg) (fun k hk=>(h.vo.lt k hk).1) h.b.size) h.hx,h.hx⟩,(cell_blk r1 _).trans rfl,frozen_blk r1 _,fun t h1 h2 h3=>(Keeps.grown hg fun k hk=>by obtain⟨c,hc⟩:=own_type h.vo hk;exact⟨c,_,hc,h2⟩).trans (Keeps.set r1 h1 4 v1)⟩
 by_cases e:i=m
 ·subst e
  exact⟨v,by rw [List.getElem?_append_right (by omega)];simp [show i - cs.length=0 by omega],own_keeps hv f⟩
 ·obtain⟨u,h1,h2⟩:=h.vr i (by omega)
  exact⟨u,by rw [List.getElem?_append_left (by omega)];exact h1,own_keeps h2 f⟩
theorem Tryz.infoInts:(Tryz.prog.info? 86).map (fun i=>(i.zero,i.size,i.bytes))=some (some (.slice none 0 0),1,24):=by kernel_rfl
theorem XL.vv {w0 w:World}{C:XC}{x:Al.RS}{N:Nat}(h:XL w0 w C x N)(hv:0<C.nv):∃ g cap,w.cell? ⟨C.kx,4,none⟩=some (.slice (some ⟨g,0,none⟩) C.nv cap)/\w0.heap.size<=g/\g<w.heap.size/\g≠C.kx/\∃ c,w.heap[g]?=some (.cells c 86 (0,0)):=by
 obtain⟨⟨vv,ve,cs,es,h, -⟩, -⟩:=h
 obtain⟨g,c,hvv,h1,h2⟩:=h.vo.form (by omega)
 subst hvv
 obtain⟨c',hc⟩:=own_type h.vo rfl
 exact⟨g,c,h.c 4,h1,h2,(fun e=>by rw [e] at hc;have:=h.blk;rw [hc] at this;cases this),c',hc⟩
theorem Keeps.set3 {w:World}{k:Nat}{c:Array Value}{u t:TypeId}(h:w.heap[k]?=some (.cells c u (0,0)))(hu:u≠t)(x0 x1 x2:Value):Keeps w (((w.setCell ⟨k,0,none⟩ x0).setCell ⟨k,1,none⟩ x1).setCell ⟨k,2,none⟩ x2) t:=fun i d hi=>by
 have hne:i≠k:=fun e=>by subst e;rw [h] at hi;cases hi;exact hu rfl
 rw [set_blk_ne _ _ hne,set_blk_ne _ _ hne,set_blk_ne _ _ hne];exact hi
theorem XW.congr {w0 w:World}{C:XC}{x:Al.RS}{V:Al.Vs}{vv ve:Value}{cs es:List Value}(h:XW w0 w C x vv ve cs es)(hV:∀ i,i<C.nv->∀ j,j<C.n->V i j=x.V i j):XW w0 w C { x with V:=V} vv ve cs es:=
 ⟨h.blk,h.vo,fun i hi=>by obtain⟨v,h1,h2⟩:=h.vr i hi;exact⟨v,h1,by rw [vecV_congr (hV i hi)];exact h2⟩,h.eo,h.er,h.b,h.hx,h.tp⟩
structure OuB (w0 w:World)(C:XC)(x:Al.RS)(vv ov ve kv:Value)(cs os es:List Value)(K:List Int)(m:Nat):Prop where
 blk:w.heap[C.kx]?=some (.cells #[.int .i64 C.q,.int .i64 C.n,.slice C.Va C.nv C.vc,C.sb,vv,.slice C.Ta C.tape.length C.tc,.int .i64 C.fuel,.int .i64 x.code,ov,ve,.int .i64 x.steps,.int .i64 x.used,.bool x.over] 85 (0,0))
 vo:w.ownsRow w0.heap.size 86 1 vv C.nv cs
 vr:∀ i,i<C.nv->∃ v,cs[i]?=some v/\w.ownsRow w0.heap.size 3 1 v C.n (vecV C.n (x.V i))
 oo:w.ownsRow w0.heap.size 86 1 ov m os
 ou:∀ i,i<m->∃ k:Nat,K[i]?=some (k:Int)/\k<C.nv/\os[i]?=cs[k]?
 ne:∀ k,vv.ownBlock=some k->ov.ownBlock≠some k
 eo:w.ownsRow w0.heap.size 114 3 ve x.evs.length es
 er:EvR w w0.heap.size x.evs es
 ko:w.ownsRow w0.heap.size 3 1 kv K.length (intsV K)
 b:Below w0.heap.size w0 w
 hx:w0.heap.size<=C.kx
theorem OuB.of {w0 w:World}{C:XC}{x:Al.RS}{vv ve kv:Value}{cs es:List Value}{K:List Int}(h:XW w0 w C x vv ve cs es)(hk:w.ownsRow w0.heap.size 3 1 kv K.length (intsV K)):OuB w0 w C x vv (.slice none 0 0) ve kv cs [] es K 0:=
 ⟨h.blk,h.vo,h.vr,World.ownsRow_nil _ _ _ _,fun i hi=>by omega,(fun k _ e=>by cases e),h.eo,h.er,hk,h.b,h.hx⟩
theorem OuB.drew {w0 w:World}{C:XC}{x:Al.RS}{vv ov ve kv:Value}{cs os es:List Value}{K:List Int}{m:Nat}(h:OuB w0 w C x vv ov ve kv cs os es K m):OuB w0 w.drew C x vv ov ve kv cs os es K m:=
 ⟨h.blk,h.vo,h.vr,h.oo,h.ou,h.ne,h.eo,EvR.imp (w:=w) (w':=w.drew) (fun _ _ _ h=>h) h.er,h.ko,below_drew' h.b,h.hx⟩
theorem OuB.alloc {w0 w:World}{C:XC}{x:Al.RS}{vv ov ve kv:Value}{cs os es:List Value}{K:List Int}{m:Nat}(h:OuB w0 w C x vv ov ve kv cs os es K m)(o:Obj):OuB w0 (w.alloc o) C x vv ov ve kv cs os es K m:=
 ⟨alloc_blk _ h.blk,h.vo.alloc _,fun i hi=>by obtain⟨v,h1,h2⟩:=h.vr i hi;exact⟨v,h1,h2.alloc _⟩,h.oo.alloc _,h.ou,h.ne,h.eo.alloc _,EvR.imp (fun _ _ _ h=>h.alloc _) h.er,h.ko.alloc _,h.b.alloc h.b.size _,h.hx⟩
theorem OuB.add {w0 w w1:World}{C:XC}{x:Al.RS}{vv ov ve kv v v1:Value}{cs os es:List Value}{K:List Int}{m k g:Nat}(h:OuB w0 w C x vv ov ve kv cs os es K m)(hk:K[m]?=some (k:Int))(hkn:k<C.nv)(hv:cs[k]?=some v)
  (ho:w1.ownsRow w0.heap.size 86 1 v1 (m+1) (os++[v])) (hg:w.grownBy w1 ov.ownBlock) (hat:ov.ownBlock=some g\/w.heap.size<=g) (h1:v1.ownBlock=some g):
  OuB w0 (w1.setCell ⟨C.kx,8,none⟩ v1) C x vv v1 ve kv cs (os++[v]) es K (m+1)/\w1.heap[C.kx]?=w.heap[C.kx]?/\w1.frozen? ⟨C.kx,8,none⟩=false/\KK w (w1.setCell ⟨C.kx,8,none⟩ v1)/\w1.ownsRow w0.heap.size 86 1 vv C.nv cs/\Keeps w w1 3:=by
 have r1:w1.heap[C.kx]?=_:=grow_blk hg h.blk (own_ne_blk h.oo h.blk (by decide))
 have f:∀ t,85≠t->86≠t->Keeps w (w1.setCell ⟨C.kx,8,none⟩ v1) t:=fun t h1 h2=>(Keeps.grown hg fun k hk=>by obtain⟨c,hc⟩:=own_type h.oo hk;exact⟨c,_,hc,h2⟩).trans (Keeps.set r1 h1 8 v1)
 have vo1:w1.ownsRow w0.heap.size 86 1 vv C.nv cs:=own_of h.vo fun k hk=>hg.block k (h.vo.lt k hk).2 (Ne.symm (h.ne k hk))
 have hl:=h.oo.1
 refine⟨⟨set_blk r1 8 v1,own_keeps vo1 (Keeps.set r1 (by decide) 8 v1),fun i hi=>?_,own_keeps ho (Keeps.set r1 (by decide) 8 v1),fun i hi=>?_,fun j hj e=>?_,own_keeps h.eo (f _ (by decide) (by decide)),EvR.imp (fun _ _ _ h=>own_keeps h (f _ (by decide) (by decide))) h.er,own_keeps h.ko (f _ (by decide) (by decide)),below_set (below_grown2 h.b (.inr hg) (fun k hk=>(h.oo.lt k hk).1) h.b.size) h.hx,h.hx⟩,by rw [r1,h.blk],frozen_blk r1 _,fun t h1 h2 h3=>f t h1 h2,vo1,Keeps.grown hg fun k hk=>by obtain⟨c,hc⟩:=own_type h.oo hk;exact⟨c,_,hc,by decide⟩⟩
 ·obtain⟨u,h1,h2⟩:=h.vr i hi
  exact⟨u,h1,own_keeps h2 (f _ (by decide) (by decide))⟩
 ·by_cases e:i=m
  ·subst e
   exact⟨k,hk,hkn,by rw [List.getElem?_append_right (by omega),hv];simp [show i - os.length=0 by omega]⟩
  ·obtain⟨j,h1,h2,h3⟩:=h.ou i (by omega)
   exact⟨j,h1,h2,by rw [List.getElem?_append_left (by omega)];exact h3⟩
 ·rw [h1] at e
  cases e
  rcases hat with e|e
  ·exact h.ne _ hj e
  ·have:=(h.vo.lt _ hj).2
   omega
open Go.Proofs.YtkplfaionpplaaaGreatDoorW.PrintLast
structure RnB (w:World)(kp kf:Nat)(p:Al.Prog)(Va Ab:Option Addr)(vc cb:Nat):Prop where
 P:PBox w kp p Va Ab vc cb
 r8:w.heap[kp+1]?=some (.cells #[.int .i64 0,.slice none 0 0,.slice none 0 0,.int .i64 0,.int .i64 0] 34 (0,0))
 r9:w.heap[kp+1+1]?=some (.cells #[.int .i64 0,.bool false,.int .i64 0] 36 (0,0))
 rf:w.heap[kf]?=some (.cells #[.int .i64 0,.bool false,.int .i64 0] 36 (0,0))
theorem RnB.kk {w w':World}{kp kf:Nat}{p:Al.Prog}{Va Ab:Option Addr}{vc cb:Nat}(h:RnB w kp kf p Va Ab vc cb)(hk:KK w w'):RnB w' kp kf p Va Ab vc cb:=
 ⟨hk _ (by decide) (by decide) (by decide) _ _ h.P,hk _ (by decide) (by decide) (by decide) _ _ h.r8,hk _ (by decide) (by decide) (by decide) _ _ h.r9,hk _ (by decide) (by decide) (by decide) _ _ h.rf⟩
theorem inputs_fine {q n:Int}{vars:List Al.Var}{ins:List (List Int)}{tape:List Int}{fuel:Int}(h:(Al.inputsF q n vars ins tape fuel).code=0):Al.inputsF q n vars ins tape fuel= .fine:=by
 unfold Al.inputsF at h ⊢
 by_cases h1:ins.length≠(Al.kindsOf vars 1).length
 ·rw [if_pos h1] at h;cases h
 rw [if_neg h1] at h ⊢
 by_cases h2:(Al.firstV q n ins 0).code≠0
 ·rw [if_pos h2] at h;exact absurd h h2
 rw [if_neg h2] at h ⊢
 by_cases h3:tape.length > 4096
 ·rw [if_pos h3] at h;cases h
 rw [if_neg h3] at h ⊢
 by_cases h4:fuel<0\/fuel > 1073741824
 ·rw [if_pos h4] at h;cases h
 rw [if_neg h4]
def RunPost (w0:World)(p:Al.Prog)(y:Al.RS)(e:Ending)(w':World):Prop:=∃ vo ve es,e= .returned (.tuple #[.agg #[.int .i64 y.code,vo,ve,.int .i64 y.steps,.int .i64 y.used],.agg #[.int .i64 0,.bool false,.int .i64 0]])/\(∃ a l c,vo= .slice a l c)/\w'.ownsRow w0.heap.size 114 3 ve y.evs.length es/\EvR w' w0.heap.size y.evs es/\
 Below w0.heap.size w0 w'/\(y.over=false->∃ os,w'.ownsRow w0.heap.size 86 1 vo (Al.kindsOf p.vars 2).length os/\∀ i (h:i<(Al.kindsOf p.vars 2).length),∃ v,os[i]?=some v/\w'.ownsRow w0.heap.size 3 1 v p.n.toNat (vecV p.n.toNat (y.V (Al.kindsOf p.vars 2)[i].toNat)))
def runF (p:Al.Prog)(ins:List (List Int))(tape:List Int)(F:Nat):Al.Fault:=if (Al.checkF p).code≠0 then Al.checkF p else Al.inputsF p.q p.n p.vars ins tape F
end Go.Proofs.YtkplfaionpplaaaGreatDoor
namespace Go.Proofs.YtkplfaionpplaaaGreatDoor
open Go.RowKit
theorem IntsAt.below {w w':World}{v:Value}{l:List Int}(h:IntsAt w v l)(hb:Below w.heap.size w w'):IntsAt w' v l:=by
 rcases h with h|⟨g,c,cur,h,h1,h2⟩
 ·exact .inl h
 ·exact .inr ⟨g,c,cur,h,below_blk hb h1 (blk_lt h1),h2⟩
theorem take_step {α:Type}{A B:List α}{j:Nat}(hA:j<A.length)(hB:j<B.length)(h:A.take j=B.take j)(e:A[j]=B[j]):A.take (j+1)=B.take (j+1):=by
 rw [List.take_succ_eq_append_getElem hA,List.take_succ_eq_append_getElem hB,h,e]
theorem ne_at {α:Type}{A B:List α}{j:Nat}(hA:j<A.length)(hB:j<B.length)(e:A[j]≠B[j]):A≠B:=fun h=>by subst h;exact e rfl
theorem same_ints {w:World}{a a2:Option Addr}{cap cap2:Nat}{A B:List Int}(h:IntsAt w (.slice a A.length cap) A)(h2:IntsAt w (.slice a2 B.length cap2) B)(hL:A.length<1000000000000):
  Calls Tryz.prog 46 #[.slice a A.length cap,.slice a2 B.length cap2] w fun e w'=>e= .returned (.bool (decide (A=B)))/\Below w.heap.size w w':=by
 have H:=Lib.hid h
 have H2:=Lib.hid h2
 clear h h2
 by_cases hl:A.length=B.length
 case neg=>
  have z:((A.length:Int) !=(B.length:Int))=true:=by simp;omega
  have z2:((A.length:Int) == (B.length:Int))=false:=by simp;omega
  have zz:decide (A=B)=false:=decide_eq_false fun e=>hl (by rw [e])
  rw [zz]
  clear zz
  go_enter Tryz.func46,Tryz.ntmps46
  go_wp2_with fail
  exact bodyPost_ret (v:= .bool false) (by simp [results,Tryz.results46,go_sem]) rfl ⟨rfl,Below.refl _ _⟩
 obtain⟨n,hn⟩:∃ n,n=A.length:=⟨_,rfl⟩
 have HA:Hid (A.length=n):=Lib.hid hn.symm
 have HB:Hid (B.length=n):=Lib.hid (by omega)
 rw [<-hl,<-hn]
 rw [<-hn] at hL
 have z:((n:Int) == (n:Int))=true:=beq_self_eq_true _
 have z2:((n:Int) !=(n:Int))=false:=by simp
 clear hn hl
 go_enter Tryz.func46,Tryz.ntmps46
 go_wp2_with fail
 go_loopg [5] (n+1) (fun gk v5 w'=>∃ j:Nat,v5= .int .i64 j/\j+gk=n+1/\j<=n/\Hid (Below w.heap.size w w'/\A.take j=B.take j))
 case atStart=>exact⟨0,rfl,by omega,by omega,Lib.hid ⟨Below.refl _ _,rfl⟩⟩
 case round=>
  obtain⟨j,rfl,hj,hj2,HR⟩:=hrel
  obtain⟨hB,hT⟩:=show Below w.heap.size w wr/\A.take j=B.take j from HR
  have lA:=show A.length=n from HA
  have lB:=show B.length=n from HB
  by_cases hjl:j<n
  ·obtain⟨k1,rfl⟩:∃ k1,gk=k1+1:=⟨gk - 1,by omega⟩
   obtain⟨g,rfl,c0⟩:=ints_get (show IntsAt w (.slice a A.length cap) A from H) (j:=j) (by omega)
   obtain⟨g2,rfl,d0⟩:=ints_get (show IntsAt w (.slice a2 B.length cap2) B from H2) (j:=j) (by omega)
   replace c0:=cell_since hB c0
   replace d0:=cell_since hB d0
   have t1:decide ((j:Int)<(n:Int))=true:=by simp;omega
   have t2:(0:Int)<=(j:Int):=by omega
   have t3:(j:Int)<(n:Int):=by omega
   obtain⟨x,hx⟩:∃ x,x=A[j]:=⟨_,rfl⟩
   obtain⟨y,hy⟩:∃ y,y=B[j]:=⟨_,rfl⟩
   rw [<-hx] at c0
   rw [<-hy] at d0
   by_cases e:x=y
   ·have hN:Hid (Below w.heap.size w wr.drew/\A.take (j+1)=B.take (j+1)):=Lib.hid ⟨below_drew' hB,take_step (by omega) (by omega) hT (by rw [<-hx,<-hy,e])⟩
    have e1:(x == y)=true:=by simp [e]
    clear hx hy e hT lA lB
    go_wp2_with fail
    go_still_tail 9,(by kernel_rfl)
    go_wp2_with fail
    go_roundg k1
    case measure=>omega
    case rel=>exact⟨j+1,by simp,by omega,by omega,hN⟩
   ·have e1:(x == y)=false:=by simp [e]
    have zz:decide (A=B)=false:=decide_eq_false (ne_at (j:=j) (by omega) (by omega) (by rw [<-hx,<-hy];exact e))
    replace zz:=Lib.hid zz
    clear hx hy e hT lA lB
    go_wp2_with fail
    go_still_tail 9,(by kernel_rfl)
    go_wp2_with fail
    exact bodyPost_ret (v:= .bool false) (by simp [results,Tryz.results46,go_sem]) rfl ⟨by rw [zz.out],below_drew' hB⟩
  ·have hje:j=n:=by omega
   have t1:decide ((j:Int)<(n:Int))=false:=by simp;omega
   have zz:decide (A=B)=true:=decide_eq_true (by rw [List.take_of_length_le (by omega),List.take_of_length_le (by omega)] at hT;exact hT)
   replace zz:=Lib.hid zz
   clear hT lA lB
   go_wp2_with fail
   exact bodyPost_ret (v:= .bool true) (by simp [results,Tryz.results46,go_sem]) rfl ⟨by rw [zz.out],hB⟩
theorem EvR.len {w:World}{B:Nat}:∀ {l:List Al.Ev} {cs:List Value},EvR w B l cs->cs.length=l.length * 3
 |[],cs,h=>by rw [show cs=[] from h];rfl
 |e :: l,cs,h=>by
  obtain⟨v,rest,rfl, -,h2⟩:=h
  have:=EvR.len h2
  simp [this]
  omega
theorem EvR.at {w:World}{B:Nat}:∀ {l:List Al.Ev} {cs:List Value},EvR w B l cs->∀ k (hk:k<l.length),∃ v,cs[k * 3]?=some (.int .i64 l[k].kind)/\cs[k * 3+1]?=some (.bool l[k].yes)/\cs[k * 3+2]?=some v/\w.ownsRow B 3 1 v l[k].vec.length (intsV l[k].vec)
 |[],cs,h=>fun k hk=>by simp at hk
 |e :: l,cs,h=>fun k hk=>by
  obtain⟨v,rest,rfl,hv,h2⟩:=h
  cases k with
  |zero=>exact⟨v,rfl,rfl,rfl,hv⟩
  |succ k=>
   obtain⟨u,a,b,c,d⟩:=EvR.at h2 k (by simpa using hk)
   exact⟨u,by rw [show (k+1) * 3=k * 3+1+1+1 by omega];exact a,by rw [show (k+1) * 3+1=(k * 3+1)+1+1+1 by omega];exact b,by rw [show (k+1) * 3+2=(k * 3+2)+1+1+1 by omega];exact c,d⟩
open Go.Proofs.YtkplfaionpplaaaGreatDoorW.PrintWords
theorem own_grown {w w':World}{base base':Nat}{e e':TypeId}{size size' n n':Nat}{v v':Value}{xs xs':List Value}(h:w.ownsRow base e size v n xs)(h':w.ownsRow base' e' size' v' n' xs')(ht:e'≠e)(hg:w'=w\/w.grownBy w' v'.ownBlock):w'.ownsRow base e size v n xs:=by
 rcases hg with rfl|hg
 ·exact h
 ·exact h.kept hg (own_ne h h' ht)
theorem blk_grown {w w':World}{base k:Nat}{e t:TypeId}{size n:Nat}{v:Value}{xs:List Value}{c:Array Value}(hk:w.heap[k]?=some (.cells c t (0,0)))(h:w.ownsRow base e size v n xs)(ht:t≠e)(hg:w'=w\/w.grownBy w' v.ownBlock):w'.heap[k]?=some (.cells c t (0,0)):=by
 rcases hg with rfl|hg
 ·exact hk
 ·exact grow_blk hg hk (own_ne_blk h hk ht)
structure OW (w0 w:World)(kp:Nat)(p:Al.Prog)(Va Ab:Option Addr)(vc cb:Nat)(n:Nat)(V:Al.Vs)(K:List Int)(ka:Option Addr)(kc:Nat)(vo:Value)(os:List Value)(i:Nat):Prop where
 p:PBox w kp p Va Ab vc cb
 k:w.ownsRow w0.heap.size 3 1 (.slice ka K.length kc) K.length (intsV K)
 o:w.ownsRow w0.heap.size 86 1 vo i os
 r:∀ j,j<i->∃ v,os[j]?=some v/\w.ownsRow w0.heap.size 3 1 v n (vecV n (V (K.getD j 0).toNat))
 b:Below w0.heap.size w0 w
section
variable {w0 w w':World} {kp n:Nat} {p:Al.Prog} {Va Ab:Option Addr} {vc cb:Nat} {V:Al.Vs} {K:List Int} {ka:Option Addr} {kc:Nat} {vo:Value} {os:List Value} {i:Nat}
theorem OW.below (h:OW w0 w kp p Va Ab vc cb n V K ka kc vo os i)(hb:Below w.heap.size w w'):OW w0 w' kp p Va Ab vc cb n V K ka kc vo os i:=
 ⟨below_blk hb h.p (blk_lt h.p),own_of h.k fun k hk=>hb.block k (h.k.lt k hk).2,own_of h.o fun k hk=>hb.block k (h.o.lt k hk).2,fun j hj=>by
  obtain⟨v,h1,h2⟩:=h.r j hj
  exact⟨v,h1,own_of h2 fun k hk=>hb.block k (h2.lt k hk).2⟩,h.b.trans (lower_below hb h.b.size)⟩
theorem OW.add (h:OW w0 w kp p Va Ab vc cb n V K ka kc vo os i){o:Obj}{v v1:Value}(hv:w.ownsRow w0.heap.size 3 1 v n (vecV n (V (K.getD i 0).toNat)))(ho:w'.ownsRow w0.heap.size 86 1 v1 (i+1) (os++[v]))(hg:w'=w.alloc o\/(w.alloc o).grownBy w' vo.ownBlock)(hb:Below w0.heap.size w0 w')(hp:PBox w' kp p Va Ab vc cb):
  OW w0 w' kp p Va Ab vc cb n V K ka kc v1 (os++[v]) (i+1):=by
 have ha:=h.o.alloc o
 have hl:=own_one h.o
 refine⟨hp,own_grown (h.k.alloc o) ha (by decide) hg,ho,fun j hj=>?_,hb⟩
 by_cases hji:j<i
 ·obtain⟨u,h1,h2⟩:=h.r j hji
  exact⟨u,by rw [List.getElem?_append_left (by omega)];exact h1,own_grown (h2.alloc o) ha (by decide) hg⟩
 ·have e:j=i:=by omega
  subst e
  exact⟨v,by rw [List.getElem?_append_right (by omega),hl];simp,own_grown (hv.alloc o) ha (by decide) hg⟩
end
theorem ref_outs {w:World}{p:Al.Prog}{Va Ab ma:Option Addr}{vc cb mc M b2:Nat}{mem:List Int}{V:Al.Vs}(hp:PLies w p Va Ab vc cb)(hvl:p.vars.length<=20)(hn:0<=p.n/\p.n<=256)(hq:0<=p.q/\p.q<8388608)(hMM:M<=65536)(hm:w.ownsRow b2 56 1 (.slice ma M mc) M (wordsV mem))
  (hV:∀ v k,v<p.vars.length->k<p.n.toNat->(2+p.n.toNat * v+k<M)/\mem.getD (2+p.n.toNat * v+k) 0=V v k/\0<=V v k/\V v k<p.q):
  Calls Tryz.prog 15 #[.agg #[.int .i64 p.q,.int .i64 p.n,.slice Va p.vars.length vc,.slice Ab p.body.length cb],.slice ma M mc] w fun e w'=>∃ vo,e= .returned (.tuple #[vo,.bool true])/\Below w.heap.size w w'/\
   ∃ os,w'.ownsRow w.heap.size 86 1 vo (Al.kindsOf p.vars 2).length os/\∀ i (h:i<(Al.kindsOf p.vars 2).length),∃ v,os[i]?=some v/\w'.ownsRow w.heap.size 3 1 v p.n.toNat (vecV p.n.toNat (V (Al.kindsOf p.vars 2)[i].toNat)):=by
 obtain⟨j0,hj0,jz0,jz1,jz2⟩:=info_parts Tryz.infoInt
 obtain⟨j1,hj1,kz0,kz1,kz2⟩:=info_parts Tryz.infoInts
 obtain⟨n,hpn⟩:=Int.eq_ofNat_of_zero_le hn.1
 obtain⟨q,hpq⟩:=Int.eq_ofNat_of_zero_le hq.1
 have hn2:n<=256:=by omega
 have hq2:q<8388608:=by omega
 rw [show p.n.toNat=n by omega] at hV ⊢
 obtain⟨K,hK⟩:∃ K,K=Al.kindsOf p.vars 2:=⟨_,rfl⟩
 have hKr:∀ v∈K,0<=v/\v<p.vars.length:=fun v hv=>Al.kindsOf_range (by rw [<-hK];exact hv)
 have hKl:K.length<=1000:=by rw [hK];have:=kindsFrom_len p.vars 2 0;unfold Al.kindsOf;omega
 obtain⟨W,hW⟩:∃ W,W=w.alloc (.cells #[.int .i64 p.q,.int .i64 p.n,.slice Va p.vars.length vc,.slice Ab p.body.length cb] 27):=⟨_,rfl⟩
 have hb0:Below w.heap.size w W:=by rw [hW];exact (Below.refl _ _).alloc (Nat.le_refl _) _
 obtain⟨kp,hkp⟩:∃ kp,kp=w.heap.size:=⟨_,rfl⟩
 have P0:PBox W kp p Va Ab vc cb:=by rw [hW,hkp];exact heap_alloc_new w _
 obtain⟨p0,p1,p2,p3⟩:=P0.cells
 have HKi:=ref_kinds (w:=W) (q:=p.q) (n:=p.n) (vc:=vc) Ab p.body.length cb (Kd.C_below hp.v hb0) (by omega) 2
 rw [<-hK] at HKi ⊢
 have HV:=Lib.hid hV
 have HM:=Lib.hid hm
 have HKr:=Lib.hid hKr
 have hml:mem.length=M:=by have:=own_one hm;simpa [wordsV] using this
 have HPL:∀ kv:Nat,kv<p.vars.length->∀ w0,Calls Tryz.prog 27 #[progV p Va Ab vc cb,.int .i64 kv] w0 fun e w'=>e= .returned (.int .i64 ((2+n * kv:Nat):Int))/\Below w0.heap.size w0 w':=fun kv hkv w0=>by
  have h:=ref_place w0 p Va Ab vc cb kv (by omega) (by omega)
  rw [show Al.placeF p kv=((2+n * kv:Nat):Int) by show 2+(kv:Int) * p.n=_;rw [hpn];simp [Int.mul_comm]] at h
  exact h
 unfold progV at HPL
 replace hkp:=Lib.hid hkp
 replace hK:=Lib.hid hK
 have HP:=Lib.hid hp
 have hwq:IntKind.u64.wrap (q:Int)=q:=IntWalk.u64_in _ (by omega)
 rw [hpq,hpn] at HKi HPL ⊢
 rw [hpq] at p0
 rw [hpn] at p1
 have PB:=Lib.hid P0
 have HB0:=Lib.hid hb0
 rw [hpq,hpn] at hW
 clear hV hm hKr hp P0 hq hn
 go_enter Tryz.func15,Tryz.ntmps15
 go_upto_region 2 with fail
 rw [<-hW]
 clear hW
 rw [show w.heap.size=kp from (show kp=_ from hkp).symm]
 go_wp2_with (first|(go_at_call 33;refine HKi.mono ?_;rintro e w1 ⟨vk,rfl,hk1,hb1⟩;obtain⟨ka,kc,rfl⟩:=own_slice hk1))
 have HH:Hid (OW w w1 kp p Va Ab vc cb n V K ka kc (.slice none 0 0) [] 0):=Lib.hid ⟨below_blk hb1 (show PBox W kp p Va Ab vc cb from PB) (blk_lt PB),own_base hk1 HB0.size,World.ownsRow_nil _ _ _ _,fun j hj=>by omega,(show Below w.heap.size w W from HB0).trans (lower_below hb1 HB0.size)⟩
 clear hk1 hb1 p0 p1 p2 p3 PB HKi HB0
 go_loopg [6,8] (K.length+1) (fun gk v6 v8 w'=>∃ i:Nat,v8= .int .i64 i/\i+gk=K.length+1/\i<=K.length/\Hid (∃ os,OW w w' kp p Va Ab vc cb n V K ka kc v6 os i))
 case atStart=>exact⟨0,rfl,by omega,by omega,Lib.hid ⟨_,HH⟩⟩
 case round=>
  obtain⟨i,rfl,hg,hi2,HR⟩:=hrel
  obtain⟨os,O⟩:=show ∃ os,OW w wr kp p Va Ab vc cb n V K ka kc u6 os i from HR
  clear HH HR
  obtain⟨ao,co,rfl⟩:=own_slice O.o
  by_cases hil:i<K.length
  ·obtain⟨k1,rfl⟩:∃ k1,gk=k1+1:=⟨gk - 1,by omega⟩
   obtain⟨kv,hkv,hkvl⟩:∃ kv:Nat,K[i]=kv/\kv<p.vars.length:=⟨K[i].toNat,by have:=(show ∀ v∈K,0<=v/\v<p.vars.length from HKr) K[i] (List.getElem_mem hil);omega,by have:=(show ∀ v∈K,0<=v/\v<p.vars.length from HKr) K[i] (List.getElem_mem hil);omega⟩
   have hkd:K.getD i 0=kv:=by rw [List.getD_eq_getElem?_getD,List.getElem?_eq_getElem hil,hkv];rfl
   have r0:(0:Int)<=(i:Int):=by omega
   have r1:(i:Int)<(K.length:Int):=by omega
   have r2:decide ((i:Int)<(K.length:Int))=true:=decide_eq_true r1
   obtain⟨gi,hka,dk⟩:=ints_get (own_ints O.k) hil
   rw [hkv] at dk
   have HPl:=HPL kv hkvl
   have HO:=Lib.hid O
   have hbs:=O.b.size
   have hkaH:=Lib.hid hka
   have hkdH:=Lib.hid hkd
   have hkvH:=Lib.hid hkvl
   have i1H:Hid (i+1+k1=K.length+1):=Lib.hid (by omega)
   have HDK:=Lib.hid dk
   clear O dk hkv hkd hka hkvl
   go_wp2_with fail
   obtain⟨wi,hwi⟩:∃ wi,wi=wr:=⟨_,rfl⟩
   rw [<-hwi] at HO HDK hbs
   have HI:Hid (wr.ownsRow wi.heap.size 3 1 (.slice none 0 0) 0 (vecV 0 (V kv))/\Below wi.heap.size wi wr):=Lib.hid ⟨World.ownsRow_nil _ _ _ _,by rw [hwi];exact Below.refl _ _⟩
   clear hwi
   go_loopg [9,10,11] (n+1) (fun gk2 v9 v10 v11 w'=>∃ k:Nat,v10= .int .i64 k/\k+gk2=n+1/\k<=n/\Hid (w'.ownsRow wi.heap.size 3 1 v9 k (vecV k (V kv))/\Below wi.heap.size wi w'))
   case atStart=>exact⟨0,rfl,by omega,by omega,HI⟩
   case round=>
    obtain⟨k,rfl,hg2,hk2,HR⟩:=hrel
    obtain⟨hown,hR⟩:=show wr.ownsRow wi.heap.size 3 1 u9 k (vecV k (V kv))/\Below wi.heap.size wi wr from HR
    clear HI HR
    have O2:=(show OW w wi kp p Va Ab vc cb n V K ka kc (.slice ao i co) os i from HO).below hR
    obtain⟨p0,p1,p2,p3⟩:=O2.p.cells
    by_cases hkl:k<n
    ·obtain⟨k2,rfl⟩:∃ k2,gk=k2+1:=⟨gk - 1,by omega⟩
     obtain⟨v1,v2,v3,v4⟩:=(show ∀ v k,v<p.vars.length->k<n->_/\_/\_/\_ from HV) kv k hkvH hkl
     obtain⟨x,hx⟩:∃ x,x=V kv k:=⟨_,rfl⟩
     rw [<-hx] at v2 v3 v4
     obtain⟨gm,hma,dm, -⟩:=words_get (show w.ownsRow b2 56 1 (.slice ma M mc) M (wordsV mem) from HM) (j:=2+n * kv+k) (by omega) hml.symm
     have hmx:mem[2+n * kv+k]'(by omega)=x:=by rw [<-v2,List.getD_eq_getElem?_getD,List.getElem?_eq_getElem (by omega)];rfl
     rw [hmx] at dm
     obtain⟨at_,hat⟩:∃ at_,at_=2+n * kv:=⟨_,rfl⟩
     rw [<-hat] at HPl dm v1
     replace hat:=Lib.hid hat
     replace hx:=Lib.hid hx
     replace dm:=cell_since O2.b dm
     have dk:=cell_since hR (show wi.cell? ⟨gi,i,none⟩=some (.int .i64 kv) from HDK)
     have s0:(0:Int)<=(at_:Int)+(k:Int):=by omega
     have s1:(at_:Int)+(k:Int)<(M:Int):=by omega
     have s6:((at_:Int)+(k:Int)).toNat=at_+k:=by omega
     have s2:decide ((k:Int)<(n:Int))=true:=decide_eq_true (by omega)
     have s3:decide ((q:Int)<=x)=false:=decide_eq_false (by omega)
     have hcat:IntKind.i64.wrap ((at_:Int)+(k:Int))=(at_:Int)+(k:Int):=IntWalk.i64_in _ (by omega)
     have s4:IntKind.i64.wrap x=x:=IntWalk.i64_in _ (by omega)
     have hka:=hkaH.out
     subst hma hka
     rw [hpq] at p0
     rw [hpn] at p1
     have hdr:=below_drew' (Below.refl wr.heap.size wr)
     go_upto_region 10 with fail
     go_region_held3 (fun w'=>w'.cell? ⟨kp,0,none⟩=some (.int .i64 q)/\w'.cell? ⟨kp,1,none⟩=some (.int .i64 n)/\w'.cell? ⟨kp,2,none⟩=some (.slice Va p.vars.length vc)/\w'.cell? ⟨kp,3,none⟩=some (.slice Ab p.body.length cb)/\w'.cell? ⟨gi,i,none⟩=some (.int .i64 kv)/\w'.cell? ⟨gm,at_+k,none⟩=some (.int .u64 x)) ((refine⟨?_,?_,?_,?_,?_,?_⟩<;> assumption)) (first
      |(go_at_call 27;refine (HPl _).mono ?_;rintro e w3 ⟨rfl,hb3⟩;have hbw:=hdr.trans hb3;have O3:=O2.below hbw;have hR3:=hR.trans (lower_below hbw hR.size);have hown3:=own_of hown fun k hk=>hbw.block k (hown.lt k hk).2;obtain⟨q0,q1,q2,q3⟩:=O3.p.cells;have dk3:=cell_since hbw dk;have dm3:=cell_since hbw dm;rw [hpq] at q0;rw [hpn] at q1;clear O2 hR hown dk dm p0 p1 p2 p3 hb3 hbw hdr))
     have own1:=hown3.alloc (.cells #[.int .i64 x] 3)
     have src1:=row_one w3 hR3.size (.int .i64 x) 3
     have bl1:Below wi.heap.size wi (w3.alloc (.cells #[.int .i64 x] 3)):=hR3.alloc hR3.size _
     go_wp2_with (first
      |(at_builtin;(refine append_row rfl (.tmp 44) (.tmp 47) 86 rfl wi.heap.size 3 j0 _ 1 8 Tryz.underlying86 hj0 jz0 jz1 jz2 rfl (by omega) _ _ _ rfl own1 wi.heap.size _ _ _ rfl src1 (by intro u hu;rw [List.mem_singleton.1 hu];rfl) (by unfold maxLen;omega) (by omega) (by have:=hR3.size;simp;omega) ?_);intro v1 w4 hown1 hgrow1;have hb4:=below_grown2 bl1 hgrow1 (fun k hk=>(own1.lt k hk).1) (by have:=hR3.size;simp;omega)))
     have HN:Hid (w4.ownsRow wi.heap.size 3 1 v1 (k+1) (vecV (k+1) (V kv))/\Below wi.heap.size wi w4):=by
      refine show _/\_ from⟨?_,hb4⟩
      rw [vecV_succ,<-show x=V kv k from hx]
      exact hown1
     clear hown1 hgrow1 hb4 own1 src1 bl1 hown3 dk3 dm3 O3 hR3
     go_roundg k2
     case measure=>omega
     case rel=>exact⟨k+1,by simp,by omega,by omega,HN⟩
    ·have hke:k=n:=by omega
     have s2:decide ((k:Int)<(n:Int))=false:=decide_eq_false (by omega)
     have s5:decide ((n:Int)<(n:Int))=false:=decide_eq_false (by omega)
     subst hke
     obtain⟨a9,c9,rfl⟩:=own_slice hown
     rw [hpn] at p1
     have own1:=O2.o.alloc (.cells #[.slice a9 k c9] 86)
     have src1:=row_one wr O2.b.size (.slice a9 k c9) 86
     have bl1:Below w.heap.size w (wr.alloc (.cells #[.slice a9 k c9] 86)):=O2.b.alloc O2.b.size _
     have hi1:=show i+1+k1=K.length+1 from i1H
     go_wp2_with (first
      |(at_builtin;(refine append_row rfl (.tmp 49) (.tmp 51) 28 rfl w.heap.size 86 j1 _ 1 24 Tryz.underlying28 hj1 kz0 kz1 kz2 rfl (by omega) _ _ _ rfl own1 w.heap.size _ _ _ rfl src1 (by intro u hu;rw [List.mem_singleton.1 hu];rfl) (by unfold maxLen;omega) (by omega) (by have:=O2.b.size;simp;omega) ?_);intro v1 w4 hown1 hgrow1;have hb4:=below_grown2 bl1 hgrow1 (fun k hk=>(own1.lt k hk).1) (by have:=O2.b.size;simp;omega)))
     have HN:Hid (∃ os,OW w w4 kp p Va Ab vc cb k V K ka kc v1 os (i+1)):=Lib.hid ⟨_,O2.add (v:= .slice a9 k c9) (by rw [show K.getD i 0=(kv:Int) from hkdH];exact own_base hown hbs) hown1 hgrow1 hb4 (blk_grown (alloc_blk _ O2.p) own1 (by decide) hgrow1)⟩
     clear hown1 hgrow1 hb4 own1 src1 bl1 hown O2 p0 p1 p2 p3 hR
     go_roundg k1
     case measure=>omega
     case rel=>exact⟨i+1,by simp,by omega,by omega,HN⟩
  ·have hie:i=K.length:=by omega
   have t1:decide ((i:Int)<(K.length:Int))=false:=decide_eq_false (by omega)
   have HO:=Lib.hid O
   clear O
   go_wp2_with fail
   have O:=show OW w wr kp p Va Ab vc cb n V K ka kc (.slice ao i co) os i from HO
   refine bodyPost_ret (v:= .tuple #[.slice ao i co,.bool true]) (by simp [results,Tryz.results15,go_sem]) rfl ⟨_,rfl,O.b,os,by rw [<-hie];exact O.o,fun j hj=>?_⟩
   obtain⟨v,h1,h2⟩:=O.r j (by omega)
   rw [List.getD_eq_getElem?_getD,List.getElem?_eq_getElem hj] at h2
   exact⟨v,h1,h2⟩
theorem same_vectors {w:World}{BA BB m:Nat}{a a2:Option Addr}{cap cap2:Nat}{oa ob:List Value}{X:Nat->List Int}(hA:w.ownsRow BA 86 1 (.slice a m cap) m oa)(hB:w.ownsRow BB 86 1 (.slice a2 m cap2) m ob)
  (rA:∀ i,i<m->∃ v,oa[i]?=some v/\w.ownsRow BA 3 1 v (X i).length (intsV (X i))) (rB:∀ i,i<m->∃ v,ob[i]?=some v/\w.ownsRow BB 3 1 v (X i).length (intsV (X i))) (hL:∀ i,i<m->(X i).length<1000000000000) (hm:m<1000000000000):
  Calls Tryz.prog 16 #[.slice a m cap,.slice a2 m cap2] w fun e w'=>e= .returned (.bool true)/\Below w.heap.size w w':=by
 have H:=Lib.hid (show _/\_ from⟨hA,rA⟩)
 have H2:=Lib.hid (show _/\_ from⟨hB,rB⟩)
 have HL:=Lib.hid hL
 have z:((m:Int) == (m:Int))=true:=beq_self_eq_true _
 have z2:((m:Int) !=(m:Int))=false:=by simp
 clear hA hB rA rB hL
 go_enter Tryz.func16,Tryz.ntmps16
 go_wp2_with fail
 go_loopg [5,6] (m+1) (fun gk v5 v6 w'=>∃ i:Nat,v5= .int .i64 i/\i+gk=m+1/\i<=m/\Hid (Below w.heap.size w w'))
 case atStart=>exact⟨0,rfl,by omega,by omega,Lib.hid (Below.refl _ _)⟩
 case round=>
  obtain⟨i,rfl,hg,hi2,HR⟩:=hrel
  have hR:=show Below w.heap.size w wr from HR
  clear HR
  by_cases hil:i<m
  ·obtain⟨k1,rfl⟩:∃ k1,gk=k1+1:=⟨gk - 1,by omega⟩
   have t1:decide ((i:Int)<(m:Int))=true:=decide_eq_true (by omega)
   have r0:(0:Int)<=(i:Int):=by omega
   have r1:(i:Int)<(m:Int):=by omega
   obtain⟨hA,rA⟩:=show w.ownsRow BA 86 1 (.slice a m cap) m oa/\(∀ i,i<m->∃ v,oa[i]?=some v/\w.ownsRow BA 3 1 v (X i).length (intsV (X i))) from H
   obtain⟨hB,rB⟩:=show w.ownsRow BB 86 1 (.slice a2 m cap2) m ob/\(∀ i,i<m->∃ v,ob[i]?=some v/\w.ownsRow BB 3 1 v (X i).length (intsV (X i))) from H2
   obtain⟨v,hv,hvo⟩:=rA i hil
   obtain⟨u,hu,huo⟩:=rB i hil
   obtain⟨av,cv,rfl⟩:=own_slice hvo
   obtain⟨au,cu,rfl⟩:=own_slice huo
   obtain⟨ga,qa,ea, -, -⟩:=hA.form (by omega)
   obtain⟨gb,qb,eb, -, -⟩:=hB.form (by omega)
   simp only [Value.slice.injEq] at ea eb
   obtain⟨rfl, -,rfl⟩:=ea
   obtain⟨rfl, -,rfl⟩:=eb
   have da:=cell_since hR ((hA.cellAt i (by have:=own_one hA;omega)).trans hv)
   have db:=cell_since hR ((hB.cellAt i (by have:=own_one hB;omega)).trans hu)
   have HSI:∀ w0:World,Below w.heap.size w w0->Calls Tryz.prog 46 #[.slice av (X i).length cv,.slice au (X i).length cu] w0 fun e w'=>e= .returned (.bool true)/\Below w0.heap.size w0 w':=fun w0 hb=>by
    refine (same_ints ((own_ints hvo).below hb) ((own_ints huo).below hb) ((show ∀ i,i<m->(X i).length<1000000000000 from HL) i hil)).mono ?_
    rintro e w' ⟨rfl,h⟩
    exact⟨by simp,h⟩
   have hdr:=below_drew' hR
   have tt:(!true)=false:=rfl
   clear hA hB rA rB hvo huo hv hu
   go_wp2_with fail
   go_region_held3 (fun w'=>w'.cell? ⟨ga,i,none⟩=some (.slice av (X i).length cv)/\w'.cell? ⟨gb,i,none⟩=some (.slice au (X i).length cu)) ((refine⟨?_,?_⟩<;> assumption)) (first
    |(go_at_call 46;refine (HSI _ hdr).mono ?_;rintro e w3 ⟨rfl,hb3⟩;have HN:Hid (Below w.heap.size w w3):=Lib.hid (hdr.trans (lower_below hb3 hdr.size));have da3:=cell_since ((below_drew' (Below.refl wr.heap.size wr)).trans hb3) da;have db3:=cell_since ((below_drew' (Below.refl wr.heap.size wr)).trans hb3) db))
   go_wp2_with fail
   go_roundg k1
   case measure=>omega
   case rel=>exact⟨i+1,by simp,by omega,by omega,HN⟩
  ·have t1:decide ((i:Int)<(m:Int))=false:=decide_eq_false (by omega)
   go_wp2_with fail
   exact bodyPost_ret (v:= .bool true) (by simp [results,Tryz.results16,go_sem]) rfl ⟨rfl,hR⟩
open Go.Proofs.YtkplfaionpplaaaGreatDoorW.PrintLast
theorem end_nat {p:Al.Prog}(hF:Al.Fine p):∃ en:Nat,(en:Int)=Al.endF p/\en<=3074/\2+p.n * (p.vars.length:Int)=en:=by
 have hn:=hF.n
 have hvl:=hF.vars
 have hnv:0<=(p.vars.length:Int) * p.n:=Int.mul_nonneg (by omega) (by omega)
 have hnv2:(p.vars.length:Int) * p.n<=12 * 256:=Int.mul_le_mul (by omega) (by omega) (by omega) (by omega)
 have hE:Al.endF p=2+p.vars.length * p.n:=rfl
 have hc:p.n * (p.vars.length:Int)=p.vars.length * p.n:=Int.mul_comm _ _
 exact⟨(Al.endF p).toNat,by omega,by omega,by omega⟩
theorem lower_outs_short {w:World}{A:Nat->Addr}(S:Sent w A){p:Al.Prog}{Va Ab ma:Option Addr}{vc cb mc M:Nat}(hp:PLies w p Va Ab vc cb)(hF:Al.Fine p)(hM:(M:Int)<Al.endF p+4096):
  Calls Tryz.prog 30 #[progV p Va Ab vc cb,.slice ma M mc] w fun e w'=>e= .returned (.tuple #[.slice none 0 0,sv A 2])/\Below w.heap.size w w':=by
 obtain⟨W,hW⟩:∃ W,W=w.alloc (.cells #[.int .i64 p.q,.int .i64 p.n,.slice Va p.vars.length vc,.slice Ab p.body.length cb] 27):=⟨_,rfl⟩
 have hb0:Below w.heap.size w W:=by rw [hW];exact (Below.refl _ _).alloc (Nat.le_refl _) _
 obtain⟨kp,hkp⟩:∃ kp,kp=w.heap.size:=⟨_,rfl⟩
 have P0:PBox W kp p Va Ab vc cb:=by rw [hW,hkp];exact heap_alloc_new w _
 obtain⟨p0,p1,p2,p3⟩:=P0.cells
 have HC:=sec_check_x (S.below hb0) (by have:=hF.vars;omega) hF.flat (hp.below hb0)
 unfold progV at HC
 obtain⟨en,hen,hen2,hen3⟩:=end_nat hF
 have HEn:=fun w0=>end_any w0 p.q p.n Va p.vars.length vc (.slice Ab p.body.length cb) (by have:=hF.n;omega) hF.vars
 rw [hen3] at HEn
 have wen:IntKind.i64.wrap ((en:Int)+4096)=(en:Int)+4096:=IntWalk.i64_in _ (by omega)
 have z1:decide ((M:Int)<(en:Int)+4096)=true:=decide_eq_true (by omega)
 have hck:(Al.checkF p).code=0:=by rw [hF.check];rfl
 clear hen hen3 hM
 unfold sv
 go_enter Tryz.func30,Tryz.ntmps30
 unfold progV
 go_upto_region 1 with (fail)
 rw [<-hW]
 simp only [<-hkp]
 replace hkp:=Lib.hid hkp
 clear hW
 go_wp2_with (first
  |(go_at_call 36;refine HC.mono ?_;rintro e w1 ⟨v,rfl,hE1,hb1⟩;obtain rfl:=hE1.nil hck;have hb2:=hb0.trans (lower_below hb1 hb0.size);have P1:PBox w1 kp p Va Ab vc cb:=below_blk hb1 P0 (blk_lt P0);clear p0 p1 p2 p3;obtain⟨p0,p1,p2,p3⟩:=P1.cells)
  |(go_at_call 55;refine (HEn _).mono ?_;rintro e w2 ⟨rfl,hb3⟩;have hb4:=hb2.trans (lower_below hb3 hb2.size);have g2:=(S.below hb4).cell 2 (by decide);unfold sv at g2))
 go_quiet (fail)
 go_wp2_with fail
 exact bodyPost_ret (v:= .tuple #[.slice none 0 0,.iface 205 (.pointer (some (A 2)))]) (by simp [results,Tryz.results30,go_sem]) rfl ⟨rfl,Go.Proofs.YtkplfaionpplaaaGreatDoorW.PrintWords.pw_below_drewN hb4 _⟩
theorem lower_outs {w:World}{A:Nat->Addr}(S:Sent w A){p:Al.Prog}{Va Ab ma:Option Addr}{vc cb mc M b2:Nat}{mem:List Int}{V:Al.Vs}(hp:PLies w p Va Ab vc cb)(hF:Al.Fine p)(hM:Al.endF p+4096<=(M:Int))(hMM:M<=65536)(hMc:M<=mc)(hm:w.ownsRow b2 56 1 (.slice ma M mc) M (wordsV mem))
  (hV:∀ v k,v<p.vars.length->k<p.n.toNat->(2+p.n.toNat * v+k<M)/\mem.getD (2+p.n.toNat * v+k) 0=V v k/\0<=V v k/\V v k<p.q):
  Calls Tryz.prog 30 #[progV p Va Ab vc cb,.slice ma M mc] w fun e w'=>∃ vo,e= .returned (.tuple #[vo,Value.nilIface])/\Below w.heap.size w w'/\
   ∃ os,w'.ownsRow w.heap.size 86 1 vo (Al.kindsOf p.vars 2).length os/\∀ i (h:i<(Al.kindsOf p.vars 2).length),∃ v,os[i]?=some v/\w'.ownsRow w.heap.size 3 1 v p.n.toNat (vecV p.n.toNat (V (Al.kindsOf p.vars 2)[i].toNat)):=by
 obtain⟨j1,hj1,kz0,kz1,kz2⟩:=info_parts Tryz.infoInts
 have hn:=hF.n
 have hvl:=hF.vars
 have hring:Al.ringOk p.q p.n=true:=by unfold Al.ringOk;rw [hF.prime,hF.size];rfl
 obtain⟨n,hpn⟩:∃ n,n=p.n.toNat:=⟨_,rfl⟩
 obtain⟨K,hK⟩:∃ K,K=Al.kindsOf p.vars 2:=⟨_,rfl⟩
 have hKr:∀ v∈K,0<=v/\v<p.vars.length:=fun v hv=>Al.kindsOf_range (by rw [<-hK];exact hv)
 have hKl:K.length<=1000:=by rw [hK];have:=kindsFrom_len p.vars 2 0;unfold Al.kindsOf;omega
 obtain⟨W,hW⟩:∃ W,W=w.alloc (.cells #[.int .i64 p.q,.int .i64 p.n,.slice Va p.vars.length vc,.slice Ab p.body.length cb] 27):=⟨_,rfl⟩
 have hb0:Below w.heap.size w W:=by rw [hW];exact (Below.refl _ _).alloc (Nat.le_refl _) _
 obtain⟨kp,hkp⟩:∃ kp,kp=w.heap.size:=⟨_,rfl⟩
 have P0:PBox W kp p Va Ab vc cb:=by rw [hW,hkp];exact heap_alloc_new w _
 obtain⟨p0,p1,p2,p3⟩:=P0.cells
 have HC:=sec_check_x (S.below hb0) (by omega) hF.flat (hp.below hb0)
 unfold progV at HC
 have hck:(Al.checkF p).code=0:=by rw [hF.check];rfl
 obtain⟨en,hen,hen2,hen3⟩:=end_nat hF
 have HEn:=fun w0=>end_any w0 p.q p.n Va p.vars.length vc (.slice Ab p.body.length cb) (by omega) hvl
 rw [hen3] at HEn
 have wen:IntKind.i64.wrap ((en:Int)+4096)=(en:Int)+4096:=IntWalk.i64_in _ (by omega)
 have z1:decide ((M:Int)<(en:Int)+4096)=false:=decide_eq_false (by omega)
 have HKi:∀ W0:World,Below w.heap.size w W0->Calls Tryz.prog 57 #[.agg #[.int .i64 p.q,.int .i64 p.n,.slice Va p.vars.length vc,.slice Ab p.body.length cb],.int .i64 2] W0 fun e w'=>∃ v,e= .returned v/\w'.ownsRow W0.heap.size 3 1 v K.length (intsV K)/\Below W0.heap.size W0 w':=by
  intro W0 hb
  have:=src_kinds (w:=W0) (q:=p.q) (n:=p.n) (vc:=vc) (.slice Ab p.body.length cb) rfl (Kd.C_below hp.v hb) (by omega) 2
  rw [<-hK] at this
  exact this
 have HV:∀ (W0:World) (hb:Below w.heap.size w W0) (kv:Nat) (hkv:kv<p.vars.length),Calls Tryz.prog 62 #[.agg #[.int .i64 p.q,.int .i64 p.n,.slice Va p.vars.length vc,.slice Ab p.body.length cb],.int .i64 kv,.slice ma M mc] W0 fun e w'=>∃ v,e= .returned (.tuple #[v,Value.nilIface])/\w'.ownsRow W0.heap.size 3 1 v n (vecV n (V kv))/\Below W0.heap.size W0 w':=by
  intro W0 hb kv hkv
  have h:=vector_any (w:=W0) (Va:=Va) (Ab:=Ab) (vc:=vc) (cb:=cb) (f:=V kv) kv hkv hvl hring hMM (own_of hm fun k hk=>hb.block k (hm.lt k hk).2) (fun k hk=>hV kv k hkv hk) (by have:=(hV kv (p.n.toNat - 1) hkv (by omega)).1;omega)
  rw [<-hpn] at h
  exact h
 rw [<-hK,<-hpn]
 have hnb:n<=256:=by omega
 replace hK:=Lib.hid hK
 replace hpn:=Lib.hid hpn
 have HKr:=Lib.hid hKr
 clear hen hen3 hM hV hm hKr
 go_enter Tryz.func30,Tryz.ntmps30
 unfold progV
 go_upto_region 1 with (fail)
 rw [<-hW]
 simp only [<-hkp]
 replace hkp:=Lib.hid hkp
 clear hW
 go_wp2_with (first
  |(go_at_call 36;refine HC.mono ?_;rintro e w1 ⟨v,rfl,hE1,hb1⟩;obtain rfl:=hE1.nil hck;have hb2:=hb0.trans (lower_below hb1 hb0.size);have P1:PBox w1 kp p Va Ab vc cb:=below_blk hb1 P0 (blk_lt P0);clear p0 p1 p2 p3;obtain⟨p0,p1,p2,p3⟩:=P1.cells)
  |(go_at_call 55;refine (HEn _).mono ?_;rintro e w2 ⟨rfl,hb3⟩;have hb4:=hb2.trans (lower_below hb3 hb2.size);have P2:PBox w2 kp p Va Ab vc cb:=below_blk hb3 P1 (blk_lt P1);clear p0 p1 p2 p3;obtain⟨p0,p1,p2,p3⟩:=P2.cells)
  |(go_at_call 57;refine (HKi _ hb4).mono ?_;rintro e w3 ⟨vk,rfl,hok,hb5⟩;obtain⟨ka,kc,rfl⟩:=own_slice hok;have P3:PBox w3 kp p Va Ab vc cb:=below_blk hb5 P2 (blk_lt P2);clear p0 p1 p2 p3))
 have HH:Hid (OW w w3 kp p Va Ab vc cb n V K ka kc (.slice none 0 0) [] 0):=Lib.hid ⟨P3,own_base hok hb4.size,World.ownsRow_nil _ _ _ _,fun j hj=>by omega,hb4.trans (lower_below hb5 hb4.size)⟩
 clear hok hb5 P3 HKi HC HEn hb0 P0 wen
 go_loopg [7,8,9,10,11,27] (K.length+1) (fun gk v7 v8 v9 v10 v11 v27 w'=>∃ i:Nat,v27= .int .i64 i/\i+gk=K.length+1/\i<=K.length/\Hid (∃ os,OW w w' kp p Va Ab vc cb n V K ka kc v7 os i))
 case atStart=>exact⟨0,rfl,by omega,by omega,Lib.hid ⟨_,HH⟩⟩
 case round=>
  obtain⟨i,rfl,hg,hi2,HR⟩:=hrel
  obtain⟨os,O⟩:=show ∃ os,OW w wr kp p Va Ab vc cb n V K ka kc u7 os i from HR
  clear HH HR
  obtain⟨ao,co,rfl⟩:=own_slice O.o
  by_cases hil:i<K.length
  ·obtain⟨k1,rfl⟩:∃ k1,gk=k1+1:=⟨gk - 1,by omega⟩
   obtain⟨kv,hkv,hkvl⟩:∃ kv:Nat,K[i]=kv/\kv<p.vars.length:=⟨K[i].toNat,by have:=(show ∀ v∈K,0<=v/\v<p.vars.length from HKr) K[i] (List.getElem_mem hil);omega,by have:=(show ∀ v∈K,0<=v/\v<p.vars.length from HKr) K[i] (List.getElem_mem hil);omega⟩
   have hkd:K.getD i 0=kv:=by rw [List.getD_eq_getElem?_getD,List.getElem?_eq_getElem hil,hkv];rfl
   have r0:(0:Int)<=(i:Int):=by omega
   have r1:(i:Int)<(K.length:Int):=by omega
   have r2:decide ((i:Int)<(K.length:Int))=true:=decide_eq_true r1
   obtain⟨gi,rfl,dk⟩:=ints_get (own_ints O.k) hil
   rw [hkv] at dk
   have HVk:=HV wr O.b kv hkvl
   obtain⟨p0,p1,p2,p3⟩:=O.p.cells
   have HO:=Lib.hid O
   have hkdH:=Lib.hid hkd
   have i1H:Hid (i+1+k1=K.length+1):=Lib.hid (by omega)
   have hbs:=O.b.size
   clear O hkv hkd hkvl
   go_wp2_with (first
    |(go_at_call 62;refine HVk.mono ?_;rintro e w4 ⟨v,rfl,hown,hb6⟩;obtain⟨a9,c9,rfl⟩:=own_slice hown;have O2:=(show OW w wr kp p Va Ab vc cb n V K (some ⟨gi,0,none⟩) kc (.slice ao i co) os i from HO).below hb6;have own1:=O2.o.alloc (.cells #[.slice a9 n c9] 86);have src1:=row_one w4 O2.b.size (.slice a9 n c9) 86;have bl1:Below w.heap.size w (w4.alloc (.cells #[.slice a9 n c9] 86)):=O2.b.alloc O2.b.size _;clear p0 p1 p2 p3 dk)
    |(at_builtin;(refine append_row rfl (.tmp 46) (.tmp 48) 28 rfl w.heap.size 86 j1 _ 1 24 Tryz.underlying28 hj1 kz0 kz1 kz2 rfl (by omega) _ _ _ rfl own1 w.heap.size _ _ _ rfl src1 (by intro u hu;rw [List.mem_singleton.1 hu];rfl) (by unfold maxLen;omega) (by omega) (by have:=O2.b.size;simp;omega) ?_);intro v1 w5 hown1 hgrow1;have hb7:=below_grown2 bl1 hgrow1 (fun k hk=>(own1.lt k hk).1) (by have:=O2.b.size;simp;omega)))
   have HN:Hid (∃ os,OW w w5 kp p Va Ab vc cb n V K (some ⟨gi,0,none⟩) kc v1 os (i+1)):=Lib.hid ⟨_,O2.add (v:= .slice a9 n c9) (by rw [show K.getD i 0=(kv:Int) from hkdH];exact own_base hown hbs) hown1 hgrow1 hb7 (blk_grown (alloc_blk _ O2.p) own1 (by decide) hgrow1)⟩
   clear hown1 hgrow1 hb7 own1 src1 bl1 hown O2 HO HVk
   go_roundg k1
   case measure=>omega
   case rel=>exact⟨i+1,by simp,by omega,by omega,HN⟩
  ·have hie:i=K.length:=by omega
   have t1:decide ((i:Int)<(K.length:Int))=false:=decide_eq_false (by omega)
   have HO:=Lib.hid O
   clear O
   go_wp2_with fail
   have O:=show OW w wr kp p Va Ab vc cb n V K ka kc (.slice ao i co) os i from HO
   refine bodyPost_ret (v:= .tuple #[.slice ao i co,Value.nilIface]) (by simp [results,Tryz.results30,go_sem]) rfl ⟨_,rfl,O.b,os,by rw [<-hie];exact O.o,fun j hj=>?_⟩
   obtain⟨v,h1,h2⟩:=O.r j (by omega)
   rw [List.getD_eq_getElem?_getD,List.getElem?_eq_getElem hj] at h2
   exact⟨v,h1,h2⟩
end Go.Proofs.YtkplfaionpplaaaGreatDoor
namespace Go.Proofs.YtkplfaionpplaaaGreatDoor
open Go.RowKit Go.Proofs.YtkplfaionpplaaaGreatDoorW.PrintWords
theorem lower_tape (w:World)(q n:Int)(a:Option Addr)(nv cap:Nat)(A6:Option Addr)(n6 c6:Nat)(h:Al.ringOk q n=true)(hv:nv<=12):Calls Tryz.prog 26 #[.agg #[.int .i64 q,.int .i64 n,.slice a nv cap,.slice A6 n6 c6]] w fun e w'=>e= .returned (.int .i64 (2+n * nv))/\Below w.heap.size w w':=by
 have hn:0<=n/\n<=256:=by
  have h2:Al.isSize n=true:=by unfold Al.ringOk at h;simp at h;exact h.2
  have:=Al.size_facts h2;omega
 obtain⟨W,hW⟩:∃ W,W=w.alloc (.cells #[.int .i64 q,.int .i64 n,.slice a nv cap,.slice A6 n6 c6] 27):=⟨_,rfl⟩
 have hb0:Below w.heap.size w W:=by rw [hW];exact (Below.refl _ _).alloc (Nat.le_refl _) _
 obtain⟨kp,hkp⟩:∃ kp,kp=w.heap.size:=⟨_,rfl⟩
 have P0:W.heap[kp]?=some (.cells #[.int .i64 q,.int .i64 n,.slice a nv cap,.slice A6 n6 c6] 27 (0,0)):=by rw [hW,hkp];exact heap_alloc_new w _
 have HV:=valid_yes W q n h
 go_enter Tryz.func26,Tryz.ntmps26
 go_wp2_with fail
 rw [<-hW]
 simp only [<-hkp]
 replace hkp:=Lib.hid hkp
 clear hW
 go_wp2_with (first
  |(go_at_call 61;refine HV.mono ?_;rintro e w1 ⟨rfl,hb1⟩;have P1:=below_blk hb1 P0 (blk_lt P0);have hb2:=hb0.trans (lower_below hb1 hb0.size);have c0:w1.cell? ⟨kp,0,none⟩=some (.int .i64 q):=(cell_blk P1 _).trans rfl;have c1:w1.cell? ⟨kp,1,none⟩=some (.int .i64 n):=(cell_blk P1 _).trans rfl;have c2:w1.cell? ⟨kp,2,none⟩=some (.slice a nv cap):=(cell_blk P1 _).trans rfl;have c3:w1.cell? ⟨kp,3,none⟩=some (.slice A6 n6 c6):=(cell_blk P1 _).trans rfl)
  |(go_at_call 55;refine (end_any _ q n a nv cap _ hn hv).mono ?_;rintro e w3 ⟨rfl,hb3⟩))
 exact bodyPost_ret (v:= .int .i64 (2+n * nv)) (by simp [results,Tryz.results26,go_sem]) rfl ⟨rfl,hb2.trans (lower_below hb3 hb2.size)⟩
def prog0:Al.Prog:=⟨17,4,[⟨1,false⟩,⟨2,false⟩,⟨3,false⟩],[]⟩
theorem prog0_fine:Al.Fine prog0:=Al.fine_of_check (by decide)
theorem prog0_lies {w:World}{k:Nat}(h:w.heap[k]?=some (.cells #[.int .i64 1,.bool false,.int .i64 2,.bool false,.int .i64 3,.bool false] 81 (0,0))):PLies w prog0 (some ⟨k,0,none⟩) none 3 0:=by
 refine⟨⟨rfl,by decide,fun _=>⟨_,rfl,fun j p hj=>?_⟩⟩,Kd.C_nil _ _,by decide⟩
 have hc:∀ i,w.cell? ⟨k,i,none⟩=(#[Value.int .i64 1,.bool false,.int .i64 2,.bool false,.int .i64 3,.bool false]:Array Value)[i]?:=fun i=>cell_blk h i
 have ha:∀ m,w.cell? ((⟨k,0,none⟩:Addr).add m)=(#[Value.int .i64 1,.bool false,.int .i64 2,.bool false,.int .i64 3,.bool false]:Array Value)[m]?:=fun m=>by
  have e:(⟨k,0,none⟩:Addr).add m=⟨k,m,none⟩:=by simp [Addr.add];try omega
  rw [e,hc]
 refine⟨[.int .i64 p.kind,.bool p.secret],rfl,kVar_mk w p,fun i u hu=>?_⟩
 rw [ha]
 have hj3:j<3:=(List.getElem?_eq_some_iff.1 hj).1
 have hi2:i<2:=(List.getElem?_eq_some_iff.1 hu).1
 have hjj:j=0\/j=1\/j=2:=by omega
 have hii:i=0\/i=1:=by omega
 rcases hjj with rfl|rfl|rfl<;> rcases hii with rfl|rfl<;> (cases hj;cases hu;rfl)
end Go.Proofs.YtkplfaionpplaaaGreatDoor
namespace Go.Proofs.YtkplfaionpplaaaGreatDoor
open Go.RowKit
theorem place_out (w:World)(q n v:Int)(a:Option Addr)(nv cap:Nat)(sb:Value)(h:Al.ringOk q n=true)(hv:v<0\/(nv:Int)<=v):Calls Tryz.prog 28 #[.agg #[.int .i64 q,.int .i64 n,.slice a nv cap,sb],.int .i64 v] w fun e w'=>e= .returned (.int .i64 0)/\Below w.heap.size w w':=by
 have b0:=heap_alloc_new w (.cells #[.int .i64 q,.int .i64 n,.slice a nv cap,sb] 27)
 have e0:(w.alloc (.cells #[.int .i64 q,.int .i64 n,.slice a nv cap,sb] 27)).cell? ⟨w.heap.size,0,none⟩=some (.int .i64 q):=by rw [cell_blk b0];rfl
 have e1:(w.alloc (.cells #[.int .i64 q,.int .i64 n,.slice a nv cap,sb] 27)).cell? ⟨w.heap.size,1,none⟩=some (.int .i64 n):=by rw [cell_blk b0];rfl
 have eb:Below w.heap.size w (w.alloc (.cells #[.int .i64 q,.int .i64 n,.slice a nv cap,sb] 27)):=(Below.refl _ _).alloc (Nat.le_refl _) _
 have HV:=fun w0=>valid_yes w0 q n h
 by_cases h0:v<0
 ·have t1:decide (v<0)=true:=decide_eq_true h0
  clear h0 hv h
  go_enter Tryz.func28,Tryz.ntmps28
  go_wp2_with (first|(go_at_call 61;refine (HV _).mono ?_;rintro e w2 ⟨rfl,hb⟩;obtain⟨f1,f2⟩:=prog_cells (below_blk hb b0 (by simp));have hb2:=eb.trans (Below.mk hb.os hb.tape hb.output hb.size (fun k hk=>hb.block k (by simp;omega)))))
  exact bodyPost_ret (v:= .int .i64 0) (by simp [results,Tryz.results28,go_sem]) rfl ⟨rfl,hb2⟩
 ·have t1:decide (v<0)=false:=decide_eq_false h0
  have t2:decide ((nv:Int)<=v)=true:=decide_eq_true (by omega)
  clear h0 hv h
  go_enter Tryz.func28,Tryz.ntmps28
  go_wp2_with (first|(go_at_call 61;refine (HV _).mono ?_;rintro e w2 ⟨rfl,hb⟩;obtain⟨f1,f2⟩:=prog_cells (below_blk hb b0 (by simp));have hb2:=eb.trans (Below.mk hb.os hb.tape hb.output hb.size (fun k hk=>hb.block k (by simp;omega)))))
  exact bodyPost_ret (v:= .int .i64 0) (by simp [results,Tryz.results28,go_sem]) rfl ⟨rfl,hb2⟩
theorem same_words {w:World}{BA BB n:Nat}{a a2:Option Addr}{cap cap2:Nat}{M:List Int}(h:w.ownsRow BA 56 1 (.slice a n cap) n (wordsV M))(h2:w.ownsRow BB 56 1 (.slice a2 n cap2) n (wordsV M))(hL:n<1000000000000):
  Calls Tryz.prog 31 #[.slice a n cap,.slice a2 n cap2] w fun e w'=>e= .returned (.bool true)/\Below w.heap.size w w':=by
 have hl:M.length=n:=by have:=own_one h;simpa [wordsV] using this
 have H:=Lib.hid h
 have H2:=Lib.hid h2
 have HL:=Lib.hid hl
 have z:((n:Int) == (n:Int))=true:=beq_self_eq_true _
 have z2:((n:Int) !=(n:Int))=false:=by simp
 clear h h2 hl
 go_enter Tryz.func31,Tryz.ntmps31
 go_wp2_with fail
 go_loopg [5,6] (n+1) (fun gk v5 v6 w'=>∃ j:Nat,v5= .int .i64 j/\j+gk=n+1/\j<=n/\Hid (Below w.heap.size w w'))
 case atStart=>exact⟨0,rfl,by omega,by omega,Lib.hid (Below.refl _ _)⟩
 case round=>
  obtain⟨j,rfl,hj,hj2,HR⟩:=hrel
  have hB:=show Below w.heap.size w wr from HR
  clear HR
  by_cases hjl:j<n
  ·obtain⟨k1,rfl⟩:∃ k1,gk=k1+1:=⟨gk - 1,by omega⟩
   have lM:=show M.length=n from HL
   obtain⟨g,rfl,c0, -⟩:=words_get (show w.ownsRow BA 56 1 (.slice a n cap) n (wordsV M) from H) (j:=j) (by omega) lM.symm
   obtain⟨g2,rfl,d0, -⟩:=words_get (show w.ownsRow BB 56 1 (.slice a2 n cap2) n (wordsV M) from H2) (j:=j) (by omega) lM.symm
   replace c0:=cell_since hB c0
   replace d0:=cell_since hB d0
   have t1:decide ((j:Int)<(n:Int))=true:=by simp;omega
   have t2:(0:Int)<=(j:Int):=by omega
   have t3:(j:Int)<(n:Int):=by omega
   obtain⟨x,hx⟩:∃ x,x=M[j]'(by omega):=⟨_,rfl⟩
   rw [<-hx] at c0 d0
   have hN:Hid (Below w.heap.size w wr.drew):=Lib.hid (below_drew' hB)
   have e1:(x == x)=true:=by simp
   clear hx lM
   go_wp2_with fail
   go_still_tail 9,(by kernel_rfl)
   go_wp2_with fail
   go_roundg k1
   case measure=>omega
   case rel=>exact⟨j+1,by simp,by omega,by omega,hN⟩
  ·have t1:decide ((j:Int)<(n:Int))=false:=by simp;omega
   go_wp2_with fail
   exact bodyPost_ret (v:= .bool true) (by simp [results,Tryz.results31,go_sem]) rfl ⟨rfl,hB⟩
end Go.Proofs.YtkplfaionpplaaaGreatDoor
