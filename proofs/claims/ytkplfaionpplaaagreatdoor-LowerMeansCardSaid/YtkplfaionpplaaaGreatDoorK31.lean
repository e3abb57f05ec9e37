/- Part 31: B81. -/
import Derived.Test.YtkplfaionpplaaaGreatDoorK30
set_option linter.unusedVariables false
set_option linter.unusedSimpArgs false
namespace Go.Proofs.YtkplfaionpplaaaGreatDoor
open Go.RowKit Go.Proofs.YtkplfaionpplaaaGreatDoorW.PrintWords
theorem KK.undrew {w w':World}(h:KK w.drew w'):KK w w':=h
def rs0 (T:List Int)(V:Al.Vs):Al.RS:=⟨T,V,0,0,[],false,0⟩
structure VrB (w0 w:World)(C:XC)(m:Nat)(vv:Value)(cs:List Value):Prop where
 blk:w.heap[C.kx]?=some (.cells (C.cells (rs0 C.tape fun _ _=>0) vv (.slice none 0 0)) 85 (0,0))
 vo:w.ownsRow w0.heap.size 86 1 vv m cs
 vr:∀ i,i<m->∃ v,cs[i]?=some v/\w.ownsRow w0.heap.size 3 1 v C.n (vecV C.n fun _=>0)
 b:Below w0.heap.size w0 w
 hx:w0.heap.size<=C.kx
theorem VrB.done {w0 w:World}{C:XC}{vv:Value}{cs:List Value}(h:VrB w0 w C C.nv vv cs):XW w0 w C (rs0 C.tape fun _ _=>0) vv (.slice none 0 0) cs []:=
 ⟨h.blk,h.vo,h.vr,World.ownsRow_nil _ _ _ _,rfl,h.b,h.hx,rfl⟩
theorem VrB.drew {w0 w:World}{C:XC}{m:Nat}{vv:Value}{cs:List Value}(h:VrB w0 w C m vv cs):VrB w0 w.drew C m vv cs:=⟨h.blk,h.vo,h.vr,below_drew' h.b,h.hx⟩
theorem VrB.alloc {w0 w:World}{C:XC}{m:Nat}{vv:Value}{cs:List Value}(h:VrB w0 w C m vv cs)(o:Obj):VrB w0 (w.alloc o) C m vv cs:=
 ⟨alloc_blk _ h.blk,h.vo.alloc _,fun i hi=>by obtain⟨v,h1,h2⟩:=h.vr i hi;exact⟨v,h1,h2.alloc _⟩,h.b.alloc h.b.size _,h.hx⟩
theorem VrB.add {w0 w w1:World}{C:XC}{m:Nat}{vv v v1:Value}{cs:List Value}(h:VrB w0 w C m vv cs)(hv:w.ownsRow w0.heap.size 3 1 v C.n (vecV C.n fun _=>0))(ho:w1.ownsRow w0.heap.size 86 1 v1 (m+1) (cs++[v]))(hg:w.grownBy w1 vv.ownBlock):
  VrB w0 (w1.setCell ⟨C.kx,4,none⟩ v1) C (m+1) v1 (cs++[v])/\w1.cell? ⟨C.kx,4,none⟩=some vv/\w1.frozen? ⟨C.kx,4,none⟩=false/\KK w (w1.setCell ⟨C.kx,4,none⟩ v1):=by
 have r1:w1.heap[C.kx]?=_:=grow_blk hg h.blk (own_ne_blk h.vo h.blk (by decide))
 have f:Keeps w (w1.setCell ⟨C.kx,4,none⟩ v1) 3:=(Keeps.grown hg fun k hk=>by obtain⟨c,hc⟩:=own_type h.vo hk;exact⟨c,_,hc,by decide⟩).trans (Keeps.set r1 (by decide) 4 v1)
 have hl:=h.vo.1
 refine⟨⟨set_blk r1 4 v1,own_keeps ho (Keeps.set r1 (by decide) 4 v1),fun i hi=>?_,below_set (below_grown2 h.b (.inr hg) (fun k hk=>(h.vo.lt k hk).1) h.b.size) h.hx,h.hx⟩,(cell_blk r1 _).trans rfl,frozen_blk r1 _,fun t h1 h2 h3=>(Keeps.grown hg fun k hk=>by obtain⟨c,hc⟩:=own_type h.vo hk;exact⟨c,_,hc,h2⟩).trans (Keeps.set r1 h1 4 v1)⟩
 by_cases e:i=m
 ·subst e
  exact⟨v,by rw [List.getElem?_append_right (by omega)];simp [show i - cs.length=0 by omega],own_keeps hv f⟩
 ·obtain⟨u,h1,h2⟩:=h.vr i (by omega)
  exact⟨u,by rw [List.getElem?_append_left (by omega)];exact h1,own_keeps h2 f⟩
theorem own_made0 (W:World){B n:Nat}(hb:B<=W.heap.size)(hn:n<=256):(W.alloc (.cells (madeCells #[.int .i64 0] n) 3)).ownsRow B 3 1 (.slice (some ⟨W.heap.size,0,none⟩) n n) n (vecV n fun _=>0):=by
 have h:=own_made W B 3 .i64 n hb (by omega)
 have e:nums .i64 (List.replicate n 0)=vecV n fun _=>0:=by
  apply List.ext_getElem
  ·simp [nums,vecV,vecN,intsV]
  ·intro j h1 h2;simp [nums,vecV,vecN,intsV]
 rwa [e] at h
theorem Tryz.infoInts:(Tryz.prog.info? 86).map (fun i=>(i.zero,i.size,i.bytes))=some (some (.slice none 0 0),1,24):=by kernel_rfl
theorem vec_of {w:World}{A:Option Addr}{a:List Int}{n:Nat}(h:(Kd.int .i64).C w A a.length a)(hn:a.length=n)(h0:0<n):Vec w A n (fun j=>a.getD j 0):=by
 subst hn
 obtain⟨ad,e, -⟩:=intsC_get h (j:=0) h0 h0
 refine⟨ad,e,fun j hj=>?_⟩
 obtain⟨ad',e',hc⟩:=intsC_get h hj hj
 rw [e] at e'
 cases e'
 rw [hc]
 simp [List.getD_eq_getElem?_getD,hj]
theorem vof_set {L:List (List Int)}{k:Nat}{a:List Int}(hk:k<L.length):Al.Vof (L.set k a)=Al.setV (Al.Vof L) k (fun j=>a.getD j 0):=by
 funext v j
 unfold Al.Vof Al.setV
 by_cases e:v=k
 ·subst e;rw [if_pos rfl];simp [List.getD_eq_getElem?_getD,hk]
 ·rw [if_neg e];simp [List.getD_eq_getElem?_getD,List.getElem?_set_ne (Ne.symm e)]
theorem vof_zero (m n:Nat):∀ i,i<m->∀ j,j<n->Al.Vof (List.replicate m (List.replicate n 0)) i j=0:=fun i hi j hj=>by
 simp [Al.Vof,List.getD_eq_getElem?_getD,hi,hj]
theorem XL.vv {w0 w:World}{C:XC}{x:Al.RS}{N:Nat}(h:XL w0 w C x N)(hv:0<C.nv):∃ g cap,w.cell? ⟨C.kx,4,none⟩=some (.slice (some ⟨g,0,none⟩) C.nv cap)/\w0.heap.size<=g/\g<w.heap.size/\g≠C.kx/\∃ c,w.heap[g]?=some (.cells c 86 (0,0)):=by
 obtain⟨⟨vv,ve,cs,es,h, -⟩, -⟩:=h
 obtain⟨g,c,hvv,h1,h2⟩:=h.vo.form (by omega)
 subst hvv
 obtain⟨c',hc⟩:=own_type h.vo rfl
 exact⟨g,c,h.c 4,h1,h2,(fun e=>by rw [e] at hc;have:=h.blk;rw [hc] at this;cases this),c',hc⟩
theorem Keeps.set5 {w:World}{k:Nat}{c:Array Value}{u t:TypeId}(h:w.heap[k]?=some (.cells c u (0,0)))(hu:u≠t)(x0 x1 x2 x3 x4:Value):Keeps w (((((w.setCell ⟨k,0,none⟩ x0).setCell ⟨k,1,none⟩ x1).setCell ⟨k,2,none⟩ x2).setCell ⟨k,3,none⟩ x3).setCell ⟨k,4,none⟩ x4) t:=fun i d hi=>by
 have hne:i≠k:=fun e=>by subst e;rw [h] at hi;cases hi;exact hu rfl
 rw [set_blk_ne _ _ hne,set_blk_ne _ _ hne,set_blk_ne _ _ hne,set_blk_ne _ _ hne,set_blk_ne _ _ hne];exact hi
theorem Keeps.set3 {w:World}{k:Nat}{c:Array Value}{u t:TypeId}(h:w.heap[k]?=some (.cells c u (0,0)))(hu:u≠t)(x0 x1 x2:Value):Keeps w (((w.setCell ⟨k,0,none⟩ x0).setCell ⟨k,1,none⟩ x1).setCell ⟨k,2,none⟩ x2) t:=fun i d hi=>by
 have hne:i≠k:=fun e=>by subst e;rw [h] at hi;cases hi;exact hu rfl
 rw [set_blk_ne _ _ hne,set_blk_ne _ _ hne,set_blk_ne _ _ hne];exact hi
theorem cell_set5 {w:World}{k b j:Nat}{v:Value}(hne:k≠b)(h:w.cell? ⟨b,j,none⟩=some v)(x0 x1 x2 x3 x4:Value):(((((w.setCell ⟨k,0,none⟩ x0).setCell ⟨k,1,none⟩ x1).setCell ⟨k,2,none⟩ x2).setCell ⟨k,3,none⟩ x3).setCell ⟨k,4,none⟩ x4).cell? ⟨b,j,none⟩=some v:=by
 rw [World.cell?_setCell_far _ _ _ _ hne,World.cell?_setCell_far _ _ _ _ hne,World.cell?_setCell_far _ _ _ _ hne,World.cell?_setCell_far _ _ _ _ hne,World.cell?_setCell_far _ _ _ _ hne];exact h
theorem cell_set5d {w:World}{k b j:Nat}{v:Value}(hne:k≠b)(h:w.cell? ⟨b,j,none⟩=some v)(x0 x1 x2 x3 x4:Value):(((((w.setCell ⟨k,0,none⟩ x0).setCell ⟨k,1,none⟩ x1).setCell ⟨k,2,none⟩ x2).setCell ⟨k,3,none⟩ x3).setCell ⟨k,4,none⟩ x4).drew.cell? ⟨b,j,none⟩=some v:=
 (World.cell?_drew _ _).trans (cell_set5 hne h x0 x1 x2 x3 x4)
theorem XW.congr {w0 w:World}{C:XC}{x:Al.RS}{V:Al.Vs}{vv ve:Value}{cs es:List Value}(h:XW w0 w C x vv ve cs es)(hV:∀ i,i<C.nv->∀ j,j<C.n->V i j=x.V i j):XW w0 w C { x with V:=V} vv ve cs es:=
 ⟨h.blk,h.vo,fun i hi=>by obtain⟨v,h1,h2⟩:=h.vr i hi;exact⟨v,h1,by rw [vecV_congr (hV i hi)];exact h2⟩,h.eo,h.er,h.b,h.hx,h.tp⟩
structure OuB (w0 w:World)(C:XC)(x:Al.RS)(vv ov ve kv:Value)(cs os es:List Value)(K:List Int)(m:Nat):Prop where
 blk:w.heap[C.kx]?=some (.cells #[.int .i64 C.q,.int .i64 C.n,.slice C.Va C.nv C.vc,C.sb,vv,.slice C.Ta C.tape.length C.tc,.int .i64 C.fuel,.int .i64 x.code,ov,ve,.int .i64 x.steps,.int .i64 x.used,.bool x.over] 85 (0,0))
 vo:w.ownsRow w0.heap.size 86 1 vv C.nv cs
 vr:∀ i,i<C.nv->∃ v,cs[i]?=some v/\w.ownsRow w0.heap.size 3 1 v C.n (vecV C.n (x.V i))
 oo:w.ownsRow w0.heap.size 86 1 ov m os
 ou:∀ i,i<m->∃ k:Nat,K[i]?=some (k:Int)/\k<C.nv/\os[i]?=cs[k]?
 ne:∀ k,vv.ownBlock=some k->ov.ownBlock≠some k
 eo:w.ownsRow w0.heap.size 114 3 ve x.evs.length es
 er:EvR w w0.heap.size x.evs es
 ko:w.ownsRow w0.heap.size 3 1 kv K.length (intsV K)
 b:Below w0.heap.size w0 w
 hx:w0.heap.size<=C.kx
theorem OuB.of {w0 w:World}{C:XC}{x:Al.RS}{vv ve kv:Value}{cs es:List Value}{K:List Int}(h:XW w0 w C x vv ve cs es)(hk:w.ownsRow w0.heap.size 3 1 kv K.length (intsV K)):OuB w0 w C x vv (.slice none 0 0) ve kv cs [] es K 0:=
 ⟨h.blk,h.vo,h.vr,World.ownsRow_nil _ _ _ _,fun i hi=>by omega,(fun k _ e=>by cases e),h.eo,h.er,hk,h.b,h.hx⟩
theorem OuB.drew {w0 w:World}{C:XC}{x:Al.RS}{vv ov ve kv:Value}{cs os es:List Value}{K:List Int}{m:Nat}(h:OuB w0 w C x vv ov ve kv cs os es K m):OuB w0 w.drew C x vv ov ve kv cs os es K m:=
 ⟨h.blk,h.vo,h.vr,h.oo,h.ou,h.ne,h.eo,EvR.imp (w:=w) (w':=w.drew) (fun _ _ _ h=>h) h.er,h.ko,below_drew' h.b,h.hx⟩
theorem OuB.alloc {w0 w:World}{C:XC}{x:Al.RS}{vv ov ve kv:Value}{cs os es:List Value}{K:List Int}{m:Nat}(h:OuB w0 w C x vv ov ve kv cs os es K m)(o:Obj):OuB w0 (w.alloc o) C x vv ov ve kv cs os es K m:=
 ⟨alloc_blk _ h.blk,h.vo.alloc _,fun i hi=>by obtain⟨v,h1,h2⟩:=h.vr i hi;exact⟨v,h1,h2.alloc _⟩,h.oo.alloc _,h.ou,h.ne,h.eo.alloc _,EvR.imp (fun _ _ _ h=>h.alloc _) h.er,h.ko.alloc _,h.b.alloc h.b.size _,h.hx⟩
theorem OuB.add {w0 w w1:World}{C:XC}{x:Al.RS}{vv ov ve kv v v1:Value}{cs os es:List Value}{K:List Int}{m k g:Nat}(h:OuB w0 w C x vv ov ve kv cs os es K m)(hk:K[m]?=some (k:Int))(hkn:k<C.nv)(hv:cs[k]?=some v)
  (ho:w1.ownsRow w0.heap.size 86 1 v1 (m+1) (os++[v])) (hg:w.grownBy w1 ov.ownBlock) (hat:ov.ownBlock=some g\/w.heap.size<=g) (h1:v1.ownBlock=some g):
  OuB w0 (w1.setCell ⟨C.kx,8,none⟩ v1) C x vv v1 ve kv cs (os++[v]) es K (m+1)/\w1.heap[C.kx]?=w.heap[C.kx]?/\w1.frozen? ⟨C.kx,8,none⟩=false/\KK w (w1.setCell ⟨C.kx,8,none⟩ v1)/\w1.ownsRow w0.heap.size 86 1 vv C.nv cs/\Keeps w w1 3:=by
 have r1:w1.heap[C.kx]?=_:=grow_blk hg h.blk (own_ne_blk h.oo h.blk (by decide))
 have f:∀ t,85≠t->86≠t->Keeps w (w1.setCell ⟨C.kx,8,none⟩ v1) t:=fun t h1 h2=>(Keeps.grown hg fun k hk=>by obtain⟨c,hc⟩:=own_type h.oo hk;exact⟨c,_,hc,h2⟩).trans (Keeps.set r1 h1 8 v1)
 have vo1:w1.ownsRow w0.heap.size 86 1 vv C.nv cs:=own_of h.vo fun k hk=>hg.block k (h.vo.lt k hk).2 (Ne.symm (h.ne k hk))
 have hl:=h.oo.1
 refine⟨⟨set_blk r1 8 v1,own_keeps vo1 (Keeps.set r1 (by decide) 8 v1),fun i hi=>?_,own_keeps ho (Keeps.set r1 (by decide) 8 v1),fun i hi=>?_,fun j hj e=>?_,own_keeps h.eo (f _ (by decide) (by decide)),EvR.imp (fun _ _ _ h=>own_keeps h (f _ (by decide) (by decide))) h.er,own_keeps h.ko (f _ (by decide) (by decide)),below_set (below_grown2 h.b (.inr hg) (fun k hk=>(h.oo.lt k hk).1) h.b.size) h.hx,h.hx⟩,by rw [r1,h.blk],frozen_blk r1 _,fun t h1 h2 h3=>f t h1 h2,vo1,Keeps.grown hg fun k hk=>by obtain⟨c,hc⟩:=own_type h.oo hk;exact⟨c,_,hc,by decide⟩⟩
 ·obtain⟨u,h1,h2⟩:=h.vr i hi
  exact⟨u,h1,own_keeps h2 (f _ (by decide) (by decide))⟩
 ·by_cases e:i=m
  ·subst e
   exact⟨k,hk,hkn,by rw [List.getElem?_append_right (by omega),hv];simp [show i - os.length=0 by omega]⟩
  ·obtain⟨j,h1,h2,h3⟩:=h.ou i (by omega)
   exact⟨j,h1,h2,by rw [List.getElem?_append_left (by omega)];exact h3⟩
 ·rw [h1] at e
  cases e
  rcases hat with e|e
  ·exact h.ne _ hj e
  ·have:=(h.vo.lt _ hj).2
   omega
theorem OuB.outs {w0 w w':World}{C:XC}{x:Al.RS}{vv ov ve kv:Value}{cs os es:List Value}{K:List Int}(h:OuB w0 w C x vv ov ve kv cs os es K K.length)(hk:∀ t,34≠t->36≠t->Keeps w w' t){n:Int}(hn:n=(C.n:Int)):
  ∃ os,w'.ownsRow w0.heap.size 86 1 ov K.length os/\∀ i (h:i<K.length),∃ v,os[i]?=some v/\w'.ownsRow w0.heap.size 3 1 v n.toNat (vecV n.toNat (x.V K[i].toNat)):=by
 refine⟨os,own_keeps h.oo (hk _ (by decide) (by decide)),fun i hi=>?_⟩
 obtain⟨k,h1,h2,h3⟩:=h.ou i hi
 obtain⟨v,h4,h5⟩:=h.vr k h2
 rw [List.getElem?_eq_getElem hi,Option.some.injEq] at h1
 rw [hn,h1,Int.toNat_natCast,Int.toNat_natCast]
 exact⟨v,h3.trans h4,own_keeps h5 (hk _ (by decide) (by decide))⟩
end Go.Proofs.YtkplfaionpplaaaGreatDoor
