/- Part 22: B70, B71. -/
import Derived.Test.YtkplfaionpplaaaGreatDoorK21
set_option maxRecDepth 100000
set_option maxHeartbeats 6400000
set_option linter.unusedVariables false
set_option linter.unusedSimpArgs false
namespace Go.Proofs.YtkplfaionpplaaaGreatDoor
open Go.RowKit Go.Proofs.YtkplfaionpplaaaGreatDoorW.PrintLast
def vecN (n:Nat)(f:Nat->Int):List Int:=(List.range n).map f
def vecV (n:Nat)(f:Nat->Int):List Value:=intsV (vecN n f)
structure XC where
 kx:Nat
 q:Int
 n:Nat
 nv:Nat
 Va:Option Addr
 vc:Nat
 sb:Value
 tape:List Int
 Ta:Option Addr
 tc:Nat
 fuel:Nat
def XC.cells (C:XC)(x:Al.RS)(vv ve:Value):Array Value:= #[.int .i64 C.q,.int .i64 C.n,.slice C.Va C.nv C.vc,C.sb,vv,.slice C.Ta C.tape.length C.tc,.int .i64 C.fuel,.int .i64 x.code,.slice none 0 0,ve,.int .i64 x.steps,.int .i64 x.used,.bool x.over]
def EvR (w:World)(B:Nat):List Al.Ev->List Value->Prop
 |[],cs=>cs=[]
 |e :: l,cs=>∃ v rest,cs= .int .i64 e.kind :: .bool e.yes :: v :: rest/\w.ownsRow B 3 1 v e.vec.length (intsV e.vec)/\EvR w B l rest
theorem EvR.imp {w w':World}{B:Nat}(h:∀ v n xs,w.ownsRow B 3 1 v n xs->w'.ownsRow B 3 1 v n xs):∀ {l:List Al.Ev} {cs:List Value},EvR w B l cs->EvR w' B l cs
 |[],_,hh=>hh
 |_ :: _,_,⟨v,r,h1,h2,h3⟩=>⟨v,r,h1,h _ _ _ h2,EvR.imp h h3⟩
theorem EvR.snoc {w:World}{B:Nat}{e:Al.Ev}{v:Value}(hv:w.ownsRow B 3 1 v e.vec.length (intsV e.vec)):∀ {l:List Al.Ev} {cs:List Value},EvR w B l cs->EvR w B (l++[e]) (cs++[.int .i64 e.kind,.bool e.yes,v])
 |[],_,h=>by subst h;exact⟨v,[],rfl,hv,rfl⟩
 |_ :: _,_,⟨v1,r,h1,h2,h3⟩=>by subst h1;exact⟨v1,_,rfl,h2,EvR.snoc hv h3⟩
structure XW (w0 w:World)(C:XC)(x:Al.RS)(vv ve:Value)(cs es:List Value):Prop where
 blk:w.heap[C.kx]?=some (.cells (C.cells x vv ve) 85 (0,0))
 vo:w.ownsRow w0.heap.size 86 1 vv C.nv cs
 vr:∀ i,i<C.nv->∃ v,cs[i]?=some v/\w.ownsRow w0.heap.size 3 1 v C.n (vecV C.n (x.V i))
 eo:w.ownsRow w0.heap.size 114 3 ve x.evs.length es
 er:EvR w w0.heap.size x.evs es
 b:Below w0.heap.size w0 w
 hx:w0.heap.size<=C.kx
 tp:x.tape=C.tape
def Bnd (N:Nat)(cs es:List Value):Prop:=∀ v∈cs++es,∀ k,v.ownBlock=some k->k<N
def XS (w0 w:World)(C:XC)(x:Al.RS)(N:Nat):Prop:=∃ vv ve cs es,XW w0 w C x vv ve cs es/\Bnd N cs es
def Keeps (w w':World)(t:TypeId):Prop:=∀ (k:Nat) (c:Array Value),w.heap[k]?=some (.cells c t (0,0))->w'.heap[k]?=some (.cells c t (0,0))
theorem own_keeps {w w':World}{base:Nat}{e:TypeId}{size:Nat}{v:Value}{n:Nat}{xs:List Value}(h:w.ownsRow base e size v n xs)(hk:Keeps w w' e):w'.ownsRow base e size v n xs:=own_of h fun k hb=>by
 obtain⟨c,hc⟩:=own_type h hb
 rw [hk _ _ hc,hc]
theorem Keeps.grown {w w':World}{row:Option Nat}{t:TypeId}(hg:w.grownBy w' row)(hr:∀ k,row=some k->∃ (c:Array Value) (u:TypeId),w.heap[k]?=some (.cells c u (0,0))/\u≠t):Keeps w w' t:=fun k c h=>grow_blk hg h fun e=>by
 obtain⟨c',u,h',hu⟩:=hr k e
 rw [h] at h'
 cases h'
 exact hu rfl
theorem Keeps.set {w:World}{k:Nat}{c:Array Value}{u t:TypeId}(h:w.heap[k]?=some (.cells c u (0,0)))(hu:u≠t)(j:Nat)(v:Value):Keeps w (w.setCell ⟨k,j,none⟩ v) t:=fun i d hi=>by
 rw [set_blk_ne _ _ (fun e=>by subst e;rw [h] at hi;cases hi;exact hu rfl)];exact hi
theorem Keeps.trans {a b c:World}{t:TypeId}(h:Keeps a b t)(h2:Keeps b c t):Keeps a c t:=fun k x hx=>h2 k x (h k x hx)
def KK (w w':World):Prop:=∀ t,85≠t->86≠t->114≠t->Keeps w w' t
theorem KK.trans {a b c:World}(h:KK a b)(h2:KK b c):KK a c:=fun t h1 h3 h4=>(h t h1 h3 h4).trans (h2 t h1 h3 h4)
theorem KK.below {w w':World}(h:Below w.heap.size w w'):KK w w':=fun t _ _ _ k c hc=>below_blk h hc (blk_lt hc)
theorem KK.refl (w:World):KK w w:=fun _ _ _ _ _ _ h=>h
section
variable {w0 w w':World} {C:XC} {x:Al.RS} {vv ve:Value} {cs es:List Value}
theorem XW.kk (h:XW w0 w C x vv ve cs es)(j:Nat)(u:Value):KK w (w.setCell ⟨C.kx,j,none⟩ u):=fun t h1 _ _=>Keeps.set h.blk h1 j u
theorem XW.of (h:XW w0 w C x vv ve cs es)(hs:∀ (k:Nat) (o:Obj),w.heap[k]?=some o->w'.heap[k]?=some o)(hb:Below w0.heap.size w0 w'):XW w0 w' C x vv ve cs es:=
 have f:∀ t,Keeps w w' t:=fun t k c hc=>hs _ _ hc
 ⟨hs _ _ h.blk,own_keeps h.vo (f _),fun i hi=>by obtain⟨v,h1,h2⟩:=h.vr i hi;exact⟨v,h1,own_keeps h2 (f _)⟩,own_keeps h.eo (f _),h.er.imp (fun _ _ _ ho=>own_keeps ho (f _)),hb,h.hx,h.tp⟩
theorem XW.alloc (h:XW w0 w C x vv ve cs es)(o:Obj):XW w0 (w.alloc o) C x vv ve cs es:=h.of (fun k x hx=>alloc_blk o hx) (h.b.alloc h.b.size _)
theorem XW.below (h:XW w0 w C x vv ve cs es)(hb:Below w.heap.size w w'):XW w0 w' C x vv ve cs es:=h.of (fun k x hx=>below_blk hb hx (blk_lt hx)) (h.b.trans (lower_below hb h.b.size))
theorem XW.drew (h:XW w0 w C x vv ve cs es):XW w0 w.drew C x vv ve cs es:=h.of (fun k x hx=>hx) (below_drew' h.b)
theorem XW.drewN (h:XW w0 w C x vv ve cs es)(m:Nat):XW w0 (w.drewN m) C x vv ve cs es:=h.of (fun k x hx=>hx) ⟨h.b.os,h.b.tape,h.b.output,h.b.size,h.b.block⟩
theorem XS.below {N:Nat}(h:XS w0 w C x N)(hb:Below w.heap.size w w'):XS w0 w' C x N:=by obtain⟨vv,ve,cs,es,h,hn⟩:=h;exact⟨vv,ve,cs,es,h.below hb,hn⟩
theorem XS.alloc {N:Nat}(h:XS w0 w C x N)(o:Obj):XS w0 (w.alloc o) C x N:=by obtain⟨vv,ve,cs,es,h,hn⟩:=h;exact⟨vv,ve,cs,es,h.alloc o,hn⟩
theorem XS.drewN {N:Nat}(h:XS w0 w C x N)(m:Nat):XS w0 (w.drewN m) C x N:=by obtain⟨vv,ve,cs,es,h,hn⟩:=h;exact⟨vv,ve,cs,es,h.drewN m,hn⟩
theorem XS.b {N:Nat}(h:XS w0 w C x N):Below w0.heap.size w0 w:=by obtain⟨vv,ve,cs,es,h,hn⟩:=h;exact h.b
theorem EvR.bnd {w:World}{B:Nat}:∀ {l:List Al.Ev} {cs:List Value},EvR w B l cs->∀ v∈cs,∀ k,v.ownBlock=some k->k<w.heap.size
 |[],_,h,v,hv,k,hk=>by subst h;cases hv
 |_ :: _,_,⟨u,r,h1,h2,h3⟩,v,hv,k,hk=>by
  subst h1
  simp only [List.mem_cons] at hv
  rcases hv with rfl|rfl|rfl|hv
  ·cases hk
  ·cases hk
  ·exact (h2.lt _ hk).2
  ·exact EvR.bnd h3 v hv k hk
theorem XW.bnd (h:XW w0 w C x vv ve cs es):Bnd w.heap.size cs es:=fun v hv k hk=>by
 rcases List.mem_append.1 hv with hv|hv
 ·obtain⟨i,hi,rfl⟩:=List.getElem_of_mem hv
  have hl:=h.vo.1
  obtain⟨u,h1,h2⟩:=h.vr i (by omega)
  rw [List.getElem?_eq_getElem hi] at h1
  cases h1
  exact (h2.lt _ hk).2
 ·exact h.er.bnd v hv k hk
theorem XS.now {N:Nat}(h:XS w0 w C x N):XS w0 w C x w.heap.size:=by obtain⟨vv,ve,cs,es,h,hn⟩:=h;exact⟨vv,ve,cs,es,h,h.bnd⟩
theorem XS.far {N:Nat}(h:XS w0 w C x N){g:Nat}{c:Array Value}(hg:w.heap[g]?=some (.cells c 3 (0,0)))(hN:N<=g)(h0:w0.heap.size<=g)(j:Nat)(u:Value):XS w0 (w.setCell ⟨g,j,none⟩ u) C x N:=by
 obtain⟨vv,ve,cs,es,h,hn⟩:=h
 have f:∀ t,3≠t->Keeps w (w.setCell ⟨g,j,none⟩ u) t:=fun t ht=>Keeps.set hg ht j u
 have f2:∀ v n xs,(∀ k,v.ownBlock=some k->k<N)->w.ownsRow w0.heap.size 3 1 v n xs->(w.setCell ⟨g,j,none⟩ u).ownsRow w0.heap.size 3 1 v n xs:=fun v n xs hv ho=>own_of ho fun k hk=>set_blk_ne _ _ (by have:=hv k hk;omega)
 have f3:∀ (l:List Al.Ev) (cs:List Value),(∀ v∈cs,∀ k,v.ownBlock=some k->k<N)->EvR w w0.heap.size l cs->EvR (w.setCell ⟨g,j,none⟩ u) w0.heap.size l cs:=by
  intro l
  induction l with
  |nil=>intro cs _ h;exact h
  |cons e l ih=>
   rintro cs hc ⟨v,r,rfl,h2,h3⟩
   exact⟨v,r,rfl,f2 _ _ _ (hc v (by simp)) h2,ih r (fun v hv=>hc v (by simp [hv])) h3⟩
 refine⟨vv,ve,cs,es,⟨f _ (by decide) _ _ h.blk,own_keeps h.vo (f _ (by decide)),fun i hi=>?_,own_keeps h.eo (f _ (by decide)),f3 _ _ (fun v hv=>hn v (List.mem_append_right _ hv)) h.er,below_set h.b h0,h.hx,h.tp⟩,hn⟩
 obtain⟨v,h1,h2⟩:=h.vr i hi
 exact⟨v,h1,f2 _ _ _ (hn v (List.mem_append_left _ (List.mem_of_getElem? h1))) h2⟩
theorem XW.field (h:XW w0 w C x vv ve cs es)(j:Nat)(u:Value){y:Al.RS}{v2:Value}(hc:(C.cells x vv ve).setIfInBounds j u=C.cells y v2 ve)(hV:y.V=x.V)(hev:y.evs=x.evs)(ht:y.tape=x.tape)(hv:v2=vv):XW w0 (w.setCell ⟨C.kx,j,none⟩ u) C y vv ve cs es:=by
 subst hv
 have f:∀ t,85≠t->Keeps w (w.setCell ⟨C.kx,j,none⟩ u) t:=fun t ht=>Keeps.set h.blk ht j u
 refine⟨by rw [<-hc];exact set_blk h.blk j u,own_keeps h.vo (f _ (by decide)),fun i hi=>?_,by rw [hev];exact own_keeps h.eo (f _ (by decide)),by rw [hev];exact h.er.imp (fun _ _ _ ho=>own_keeps ho (f _ (by decide))),below_set h.b h.hx,h.hx,ht.trans h.tp⟩
 obtain⟨v,h1,h2⟩:=h.vr i hi
 rw [hV]
 exact⟨v,h1,own_keeps h2 (f _ (by decide))⟩
theorem XW.step (h:XW w0 w C x vv ve cs es):XW w0 (w.setCell ⟨C.kx,10,none⟩ (.int .i64 ((x.steps+1:Nat):Int))) C { x with steps:=x.steps+1} vv ve cs es:=h.field 10 _ (v2:=vv) rfl rfl rfl rfl rfl
theorem XW.used (h:XW w0 w C x vv ve cs es):XW w0 (w.setCell ⟨C.kx,11,none⟩ (.int .i64 ((x.used+1:Nat):Int))) C { x with used:=x.used+1} vv ve cs es:=h.field 11 _ (v2:=vv) rfl rfl rfl rfl rfl
theorem XW.fin (h:XW w0 w C x vv ve cs es)(c:Int):XW w0 ((w.setCell ⟨C.kx,7,none⟩ (.int .i64 c)).setCell ⟨C.kx,12,none⟩ (.bool true)) C (x.fin c) vv ve cs es:=
 (h.field 7 (.int .i64 c) (y:={ x with code:=c}) (v2:=vv) rfl rfl rfl rfl rfl).field 12 _ (v2:=vv) rfl rfl rfl rfl rfl
theorem XW.kk2 (h:XW w0 w C x vv ve cs es)(c:Int):KK w ((w.setCell ⟨C.kx,7,none⟩ (.int .i64 c)).setCell ⟨C.kx,12,none⟩ (.bool true)):=
 (h.kk 7 _).trans ((h.field 7 (.int .i64 c) (y:={ x with code:=c}) (v2:=vv) rfl rfl rfl rfl rfl).kk 12 _)
theorem XW.c (h:XW w0 w C x vv ve cs es)(j:Nat):w.cell? ⟨C.kx,j,none⟩=(C.cells x vv ve)[j]?:=cell_blk h.blk _
theorem XW.fz (h:XW w0 w C x vv ve cs es)(j:Nat):w.frozen? ⟨C.kx,j,none⟩=false:=frozen_blk h.blk _
theorem XW.event (h:XW w0 w C x vv ve cs es){e:Al.Ev}{v v1:Value}{w1:World}(ho:w1.ownsRow w0.heap.size 114 3 v1 (x.evs.length+1) (es++[.int .i64 e.kind,.bool e.yes,v]))(hg:w.grownBy w1 ve.ownBlock)(hv:w.ownsRow w0.heap.size 3 1 v e.vec.length (intsV e.vec)):
  XW w0 (w1.setCell ⟨C.kx,9,none⟩ v1) C { x with evs:=x.evs++[e]} vv v1 cs (es++[.int .i64 e.kind,.bool e.yes,v])/\w1.cell? ⟨C.kx,9,none⟩=some ve/\w1.frozen? ⟨C.kx,9,none⟩=false:=by
 have r1:w1.heap[C.kx]?=_:=grow_blk hg h.blk (own_ne_blk h.eo h.blk (by decide))
 have f:∀ t,85≠t->114≠t->Keeps w (w1.setCell ⟨C.kx,9,none⟩ v1) t:=fun t ht hu=>(Keeps.grown hg fun k hk=>by obtain⟨c,hc⟩:=own_type h.eo hk;exact⟨c,_,hc,hu⟩).trans (Keeps.set r1 ht 9 v1)
 refine⟨⟨?_,own_keeps h.vo (f _ (by decide) (by decide)),fun i hi=>?_,?_,?_,below_set (below_grown2 h.b (.inr hg) (fun k hk=>(h.eo.lt k hk).1) h.b.size) h.hx,h.hx,h.tp⟩,(cell_blk r1 _).trans rfl,frozen_blk r1 _⟩
 ·exact set_blk r1 9 v1
 ·obtain⟨u,h1,h2⟩:=h.vr i hi
  exact⟨u,h1,own_keeps h2 (f _ (by decide) (by decide))⟩
 ·rw [List.length_append]
  exact own_keeps ho (Keeps.set r1 (by decide) 9 v1)
 ·exact (h.er.imp (fun _ _ _ hh=>own_keeps hh (f _ (by decide) (by decide)))).snoc (own_keeps hv (f _ (by decide) (by decide)))
theorem XW.kkg (h:XW w0 w C x vv ve cs es){w1:World}(hg:w.grownBy w1 ve.ownBlock){u:Value}:KK w (w1.setCell ⟨C.kx,9,none⟩ u):=fun t h1 h2 h3=>
 (Keeps.grown hg fun k hk=>by obtain⟨c,hc⟩:=own_type h.eo hk;exact⟨c,_,hc,h3⟩).trans (Keeps.set (grow_blk hg h.blk (own_ne_blk h.eo h.blk (by decide))) h1 9 u)
theorem XW.vec (h:XW w0 w C x vv ve cs es){d:Nat}(hd:d<C.nv){v:Value}{f:Nat->Int}(hv:w.ownsRow w0.heap.size 3 1 v C.n (vecV C.n f)):∃ g vcap,vv= .slice (some ⟨g,0,none⟩) C.nv vcap/\(∃ u,w.cell? ⟨g,d,none⟩=some u)/\w.frozen? ⟨g,d,none⟩=false/\g≠C.kx/\w0.heap.size<=g/\
  XW w0 (w.setCell ⟨g,d,none⟩ v) C { x with V:=Al.setV x.V d f} vv ve (cs.set d v) es:=by
 obtain⟨g,vcap,hvv,hgb,hgl⟩:=h.vo.form (by omega)
 have hl:=h.vo.1
 subst hvv
 obtain⟨c,hc⟩:=own_type h.vo rfl
 have hne:C.kx≠g:=fun e=>by subst e;rw [h.blk] at hc;cases hc
 have f1:∀ t,86≠t->Keeps w (w.setCell ⟨g,d,none⟩ v) t:=fun t ht=>Keeps.set hc ht d v
 refine⟨g,vcap,rfl,⟨_,(h.vo.cellAt d (by omega)).trans (List.getElem?_eq_getElem (by omega))⟩,h.vo.frozenAt _,Ne.symm hne,hgb,?_⟩
 refine⟨by rw [set_blk_ne _ _ hne];exact h.blk,(h.vo.stored d v).1,fun i hi=>?_,own_keeps h.eo (f1 _ (by decide)),h.er.imp (fun _ _ _ ho=>own_keeps ho (f1 _ (by decide))),below_set h.b hgb,h.hx,h.tp⟩
 by_cases e:i=d
 ·subst e
  refine⟨v,by rw [List.getElem?_set_self (by omega)],?_⟩
  have:Al.setV x.V i f i=f:=by funext k;simp [Al.setV]
  show World.ownsRow _ _ _ _ _ _ (vecV C.n (Al.setV x.V i f i))
  rw [this]
  exact own_keeps hv (f1 _ (by decide))
 ·obtain⟨u,h1,h2⟩:=h.vr i hi
  refine⟨u,by rw [List.getElem?_set_ne (Ne.symm e)];exact h1,?_⟩
  have:Al.setV x.V d f i=x.V i:=by funext k;simp [Al.setV,e]
  show World.ownsRow _ _ _ _ _ _ (vecV C.n (Al.setV x.V d f i))
  rw [this]
  exact own_keeps h2 (f1 _ (by decide))
end
theorem run_end {w0 w:World}{C:XC}{x:Al.RS}{N:Nat}(h:XS w0 w C x N)(c:Int):Calls Tryz.prog 94 #[.pointer (some ⟨C.kx,0,none⟩),.int .i64 c] w fun e w'=>e= .returned (.tuple #[])/\XS w0 w' C (x.fin c) N/\KK w w':=by
 obtain⟨vv,ve,cs,es,h,hn⟩:=h
 have c7:w.cell? ⟨C.kx,7,none⟩=some (.int .i64 x.code):=h.c 7
 have c12:w.cell? ⟨C.kx,12,none⟩=some (.bool x.over):=h.c 12
 have f7:=h.fz 7
 have f12:=h.fz 12
 have HN:Hid (XS w0 ((w.setCell ⟨C.kx,7,none⟩ (.int .i64 c)).setCell ⟨C.kx,12,none⟩ (.bool true)) C (x.fin c) N/\KK w ((w.setCell ⟨C.kx,7,none⟩ (.int .i64 c)).setCell ⟨C.kx,12,none⟩ (.bool true))):=Lib.hid ⟨⟨_,_,_,_,h.fin c,hn⟩,h.kk2 c⟩
 clear hn
 clear h
 go_enter Tryz.func94,Tryz.ntmps94
 go_wp2_with fail
 exact bodyPost_end (v:= .tuple #[]) (by simp [results,Tryz.results94,go_sem]) rfl ⟨rfl,HN⟩
theorem run_step {w0 w:World}{C:XC}{x:Al.RS}{N:Nat}(h:XS w0 w C x N)(hs:x.steps<=2147483648):Calls Tryz.prog 66 #[.pointer (some ⟨C.kx,0,none⟩)] w fun e w'=>e= .returned (.bool (decide (x.steps<C.fuel)))/\XS w0 w' C (if x.steps>=C.fuel then x.fin 4 else { x with steps:=x.steps+1}) N/\KK w w':=by
 obtain⟨vv,ve,cs,es,h,hn⟩:=h
 obtain⟨fu,hfu⟩:∃ fu:Int,fu=(C.fuel:Int):=⟨_,rfl⟩
 obtain⟨st,hst⟩:∃ st:Int,st=(x.steps:Int):=⟨_,rfl⟩
 have c6:w.cell? ⟨C.kx,6,none⟩=some (.int .i64 fu):=by rw [hfu];exact h.c 6
 have c10:w.cell? ⟨C.kx,10,none⟩=some (.int .i64 st):=by rw [hst];exact h.c 10
 have f10:=h.fz 10
 by_cases hf:C.fuel<=x.steps
 ·have t0:decide (fu<=st)=true:=decide_eq_true (by omega)
  rw [if_pos hf,decide_eq_false (by omega:¬x.steps<C.fuel)]
  have HE:=fun m=>run_end (w0:=w0) (w:=w.drewN m) ⟨_,_,_,_,h.drewN m,hn⟩ 4
  clear h hn hfu hst hf hs
  go_enter Tryz.func66,Tryz.ntmps66
  go_wp2_with fail
  go_quiet (fail)
  go_wp2_with (first|(go_at_call 94;refine (HE _).mono ?_;rintro e w1 ⟨rfl,HN⟩;replace HN:=Lib.hid HN))
  exact bodyPost_ret (v:= .bool false) (by simp [results,Tryz.results66,go_sem]) rfl ⟨rfl,HN⟩
 ·have t0:decide (fu<=st)=false:=decide_eq_false (by omega)
  rw [if_neg hf,decide_eq_true (by omega:x.steps<C.fuel)]
  have HN:∀ m,Hid (XS w0 ((w.drewN m).setCell ⟨C.kx,10,none⟩ (.int .i64 (st+1))) C { x with steps:=x.steps+1} N/\KK w ((w.drewN m).setCell ⟨C.kx,10,none⟩ (.int .i64 (st+1)))):=fun m=>Lib.hid (by rw [hst];exact⟨⟨_,_,_,_,(h.drewN m).step,hn⟩,(h.drewN m).kk 10 _⟩)
  have b0:0<=st:=by omega
  have b1:st<=2147483648:=by omega
  clear h hn hfu hst hf hs
  go_enter Tryz.func66,Tryz.ntmps66
  go_wp2_with fail
  go_quiet (fail)
  go_wp2_with fail
  exact bodyPost_ret (v:= .bool true) (by simp [results,Tryz.results66,go_sem]) rfl ⟨rfl,HN _⟩
theorem Tryz.infoEvent:(Tryz.prog.info? 114).map (fun i=>(i.zero,i.size,i.bytes))=some (some (.agg #[.int .i64 0,.bool false,.slice none 0 0]),3,40):=by kernel_rfl
theorem run_event {w0 w:World}{C:XC}{x:Al.RS}{N:Nat}(h:XS w0 w C x N)(e:Al.Ev){v:Value}(hv:w.ownsRow w0.heap.size 3 1 v e.vec.length (intsV e.vec))(hvN:∀ k,v.ownBlock=some k->k<N)(hl:x.evs.length<=100000000):Calls Tryz.prog 68 #[.pointer (some ⟨C.kx,0,none⟩),.agg #[.int .i64 e.kind,.bool e.yes,v]] w fun r w'=>r= .returned (.tuple #[])/\XS w0 w' C { x with evs:=x.evs++[e]} N/\KK w w':=by
 obtain⟨vv,ve,cs,es,h,hn⟩:=h
 have HN:=Lib.hid (show Bnd N cs (es++[.int .i64 e.kind,.bool e.yes,v]) from fun u hu k hk=>by
  simp only [List.mem_append,List.mem_cons,List.not_mem_nil,or_false] at hu
  rcases hu with hu|hu|rfl|rfl|rfl
  ·exact hn u (List.mem_append_left _ hu) k hk
  ·exact hn u (List.mem_append_right _ hu) k hk
  ·cases hk
  ·cases hk
  ·exact hvN k hk)
 clear hn hvN
 obtain⟨j0,hj0,jz0,jz1,jz2⟩:=info_parts Tryz.infoEvent
 have hv1:v.oneCell'=true:=by obtain⟨a,c,rfl⟩:=own_slice hv;rfl
 obtain⟨kE,hkE⟩:∃ kE,kE=w.heap.size:=⟨_,rfl⟩
 obtain⟨W,hW⟩:∃ W,W=w.alloc (.cells #[.int .i64 e.kind,.bool e.yes,v] 114):=⟨_,rfl⟩
 have hA0:XW w0 W C x vv ve cs es:=by rw [hW];exact h.alloc _
 have hE:W.heap[kE]?=some (.cells #[.int .i64 e.kind,.bool e.yes,v] 114 (0,0)):=by rw [hW,hkE];exact heap_alloc_new w _
 have hvA:(W.alloc (.cells #[.int .i64 e.kind,.bool e.yes,v] 114)).ownsRow w0.heap.size 3 1 v e.vec.length (intsV e.vec):=by rw [hW];exact (hv.alloc _).alloc _
 have hKA:KK w (W.alloc (.cells #[.int .i64 e.kind,.bool e.yes,v] 114)):=by rw [hW];exact fun t _ _ _ k c hc=>alloc_blk _ (alloc_blk _ hc)
 have nE:ve.ownBlock≠some kE:=fun hk=>by have:=(h.eo.lt _ hk).2;omega
 have hA:=hA0.alloc (.cells #[.int .i64 e.kind,.bool e.yes,v] 114)
 have c9:W.cell? ⟨C.kx,9,none⟩=some ve:=hA0.c 9
 have d0:W.cell? ⟨kE,0,none⟩=some (.int .i64 e.kind):=(cell_blk hE _).trans rfl
 have d1:W.cell? ⟨kE,1,none⟩=some (.bool e.yes):=(cell_blk hE _).trans rfl
 have d2:W.cell? ⟨kE,2,none⟩=some v:=(cell_blk hE _).trans rfl
 go_enter Tryz.func68,Tryz.ntmps68
 go_wp2_with fail
 rw [<-hW]
 simp only [<-hkE]
 replace hkE:=Lib.hid hkE
 clear hW h hv
 refine start_ (n:=13) (S:=fun w'=>w'.cell? ⟨C.kx,9,none⟩=some ve/\w'.cell? ⟨kE,0,none⟩=some (.int .i64 e.kind)/\w'.cell? ⟨kE,1,none⟩=some (.bool e.yes)/\w'.cell? ⟨kE,2,none⟩=some v) (ds:=[12]) #[false,false,false,false,false,false,false,false,false,false,false,false,false] (by kernel_rfl) rfl rfl ⟨c9,d0,d1,d2⟩ (fun hHeld=>?_)
 refine pure_ (i:=0) (N:=some 4) (v:=?_) (a':=?_) #[true,false,false,false,false,false,false,false,false,false,false,false,false] rfl rfl (by kernel_rfl) (fun _ _ _ h=>h) (Or.inl ⟨by rfl,?_⟩) ?_ ?_
 rotate_left
 ·intro w'
  go_simp
  with_reducible rfl
 rotate_left
 ·simp only [Act.put,List.setIfInBounds_toArray,List.set_cons_zero,List.set_cons_succ,i64_w,i32_w]
  rfl
 refine pure_ (i:=1) (N:=some 5) (v:=?_) (a':=?_) #[true,true,false,false,false,false,false,false,false,false,false,false,false] rfl rfl (by kernel_rfl) (fun _ _ _ h=>h) (Or.inl ⟨by rfl,?_⟩) ?_ ?_
 rotate_left
 ·intro w'
  go_simp
  with_reducible rfl
 rotate_left
 ·simp only [Act.put,List.setIfInBounds_toArray,List.set_cons_zero,List.set_cons_succ,i64_w,i32_w]
  rfl
 refine pure_ (i:=2) (N:=some 6) (v:=?_) (a':=?_) #[true,true,true,false,false,false,false,false,false,false,false,false,false] rfl rfl (by kernel_rfl) (fun _ _ _ h=>h) (Or.inl ⟨by rfl,?_⟩) ?_ ?_
 rotate_left
 ·intro w'
  go_simp
  with_reducible rfl
 rotate_left
 ·simp only [Act.put,List.setIfInBounds_toArray,List.set_cons_zero,List.set_cons_succ,i64_w,i32_w]
  rfl
 refine pure_ (i:=3) (N:=some 7) (v:=?_) (a':=?_) #[true,true,true,true,false,false,false,false,false,false,false,false,false] rfl rfl (by kernel_rfl) (fun _ _ _ h=>h) (Or.inl ⟨by rfl,?_⟩) ?_ ?_
 rotate_left
 ·intro w'
  go_simp
  with_reducible rfl
 rotate_left
 ·simp only [Act.put,List.setIfInBounds_toArray,List.set_cons_zero,List.set_cons_succ,i64_w,i32_w]
  rfl
 refine pure_ (i:=4) (N:=some 8) (v:=?_) (a':=?_) #[true,true,true,true,true,false,false,false,false,false,false,false,false] rfl rfl (by kernel_rfl) (fun _ _ _ h=>h) (Or.inl ⟨by rfl,?_⟩) ?_ ?_
 rotate_left
 ·intro w'
  go_simp
  with_reducible rfl
 rotate_left
 ·simp only [Act.put,List.setIfInBounds_toArray,List.set_cons_zero,List.set_cons_succ,i64_w,i32_w]
  rfl
 refine take_ (i:=5) (N:=some 9) (v:=?_) (a':=?_) #[true,true,true,true,true,true,false,false,false,false,false,false,false] rfl rfl (by kernel_rfl) (fun _ _ _ h=>h) (Or.inl ⟨by rfl,?_⟩) hHeld ?_ ?_
 rotate_left
 ·rintro w' ⟨s0,s1,s2,s3⟩
  go_simp
  with_reducible rfl
 rotate_left
 ·simp only [Act.put,List.setIfInBounds_toArray,List.set_cons_zero,List.set_cons_succ,i64_w,i32_w]
  rfl
 refine take_ (i:=6) (N:=some 10) (v:=?_) (a':=?_) #[true,true,true,true,true,true,true,false,false,false,false,false,false] rfl rfl (by kernel_rfl) (fun _ _ _ h=>h) (Or.inl ⟨by rfl,?_⟩) hHeld ?_ ?_
 rotate_left
 ·rintro w' ⟨s0,s1,s2,s3⟩
  go_simp
  with_reducible rfl
 rotate_left
 ·simp only [Act.put,List.setIfInBounds_toArray,List.set_cons_zero,List.set_cons_succ,i64_w,i32_w]
  rfl
 refine one_ (i:=7) (N:=some 11) #[true,true,true,true,true,true,true,true,false,false,false,false,false] rfl rfl (by kernel_rfl) (by decide) (fun K hK=>?_)
 go_simp
 refine hK.out _ _ ⟨alloc_cell _ c9,alloc_cell _ d0,alloc_cell _ d1,alloc_cell _ d2⟩ (fun hHeld=>?_)
 clear hK K
 refine one_ (i:=8) (N:=some 12) #[true,true,true,true,true,true,true,true,true,false,false,false,false] rfl rfl (by kernel_rfl) (by decide) (fun K hK=>?_)
 refine step_append_lies _ (by rfl) (.tmp 9) (.tmp 11) _ (by rfl) w0.heap.size 114 j0 _ 3 40 Tryz.underlying32 hj0 jz0 jz1 jz2 rfl (by omega) ve x.evs.length es (by rfl) hA.eo
  ⟨W.heap.size,0,none⟩ 1 1 [.int .i64 e.kind,.bool e.yes,v] (by rfl) (by rfl) (World.news_of_block (cs:= #[.int .i64 e.kind,.bool e.yes,v]) (t:=114) (fr:=(0,0)) (heap_alloc_new W _)) (by intro u hu;simp only [List.mem_cons,List.not_mem_nil,or_false] at hu;rcases hu with rfl|rfl|rfl;rfl;rfl;exact hv1)
  (by omega) (by unfold maxLen;omega) (by omega) hA.b.size (W.heap.size+1) (by simp) ?_
 intro gg cap W1 hown hgrow hat hlt
 obtain⟨hN,c9_7,f9_7⟩:=hA.drew.event hown hgrow hvA.drew
 have k1:=KK.trans hKA (hA.drew.kkg hgrow (u:= .slice (some ⟨gg,0,none⟩) (x.evs.length+1) cap))
 have d0_7:W1.cell? ⟨kE,0,none⟩=some (.int .i64 e.kind):=(cell_blk (grow_blk hgrow (alloc_blk _ hE) nE) _).trans rfl
 have d1_7:W1.cell? ⟨kE,1,none⟩=some (.bool e.yes):=(cell_blk (grow_blk hgrow (alloc_blk _ hE) nE) _).trans rfl
 have d2_7:W1.cell? ⟨kE,2,none⟩=some v:=(cell_blk (grow_blk hgrow (alloc_blk _ hE) nE) _).trans rfl
 refine hK.out _ _ ⟨c9_7,d0_7,d1_7,d2_7⟩ (fun hHeld=>?_)
 clear hK K
 refine norm_ (a':=?_) ?_ ?_
 rotate_left
 ·show Act.put _ (some 12) _=_
  simp only [Act.put,List.setIfInBounds_toArray,List.set_cons_zero,List.set_cons_succ,i64_w,i32_w]
  rfl
 refine pure_ (i:=9) (N:=some 13) (v:=?_) (a':=?_) #[true,true,true,true,true,true,true,true,true,true,false,false,false] rfl rfl (by kernel_rfl) (fun _ _ _ h=>h) (Or.inl ⟨by rfl,?_⟩) ?_ ?_
 rotate_left
 ·intro w'
  go_simp
  with_reducible rfl
 rotate_left
 ·simp only [Act.put,List.setIfInBounds_toArray,List.set_cons_zero,List.set_cons_succ,i64_w,i32_w]
  rfl
 refine pure_ (i:=10) (N:=some 14) (v:=?_) (a':=?_) #[true,true,true,true,true,true,true,true,true,true,true,false,false] rfl rfl (by kernel_rfl) (fun _ _ _ h=>h) (Or.inl ⟨by rfl,?_⟩) ?_ ?_
 rotate_left
 ·intro w'
  go_simp
  with_reducible rfl
 rotate_left
 ·simp only [Act.put,List.setIfInBounds_toArray,List.set_cons_zero,List.set_cons_succ,i64_w,i32_w]
  rfl
 refine pure_ (i:=11) (N:=some 15) (v:=?_) (a':=?_) #[true,true,true,true,true,true,true,true,true,true,true,true,false] rfl rfl (by kernel_rfl) (fun _ _ _ h=>h) (Or.inl ⟨by rfl,?_⟩) ?_ ?_
 rotate_left
 ·intro w'
  go_simp
  with_reducible rfl
 rotate_left
 ·simp only [Act.put,List.setIfInBounds_toArray,List.set_cons_zero,List.set_cons_succ,i64_w,i32_w]
  rfl
 refine last_ (i:=12) (N:=none) #[true,true,true,true,true,true,true,true,true,true,true,true,true] rfl rfl (by kernel_rfl) (by decide) (fun K hK=>?_)
 go_simp
 refine hK.out _ _ ?_
 clear hK K
 refine done_ (by kernel_rfl) ?_
 exact bodyPost_end (v:= .tuple #[]) (by simp [results,Tryz.results68,go_sem]) rfl ⟨rfl,⟨_,_,_,_,hN,HN⟩,k1⟩
def Vec (w:World)(A:Option Addr)(n:Nat)(f:Nat->Int):Prop:=∃ ad,A=some ad/\∀ j,j<n->w.cell? (ad.add j)=some (.int .i64 (f j))
theorem Vec.below {w w':World}{A:Option Addr}{n:Nat}{f:Nat->Int}(h:Vec w A n f)(hb:Below w.heap.size w w'):Vec w' A n f:=by
 obtain⟨ad,e,h⟩:=h
 exact⟨ad,e,fun j hj=>cell_since hb (h j hj)⟩
theorem vecN_len (n:Nat)(f:Nat->Int):(vecN n f).length=n:=by simp [vecN]
theorem vecV_succ (n:Nat)(f:Nat->Int):vecV (n+1) f=vecV n f++[.int .i64 (f n)]:=by simp [vecV,vecN,intsV,List.range_succ]
theorem own_vec {w:World}{B n:Nat}{v:Value}{f:Nat->Int}(hn:0<n)(h:w.ownsRow B 3 1 v n (vecV n f)):∃ A cap,v= .slice A n cap/\Vec w A n f:=by
 obtain⟨g,c,hv,hgb,hgl⟩:=h.form (by omega)
 subst hv
 refine⟨_,_,rfl,_,rfl,fun j hj=>?_⟩
 have hc:=h.cellAt j (by omega)
 have:(⟨g,0,none⟩:Addr).add j=⟨g,j,none⟩:=by unfold Addr.add;split<;> simp_all
 rw [this,hc]
 simp [vecV,vecN,intsV,hj]
theorem step_int {ops:Array Oper}{o:Oper}{a:Act}{K:Act->World->Prop}{Q:Exit->Act->World->Prop}{E:Prop}(hgd:o.guard=none)(s u:Operand)(ho:o.op= .call { callee:= .builtin .append,args:= #[s,u],argTypes:= #[86,86]})
  {w wr:World} {v:Value} {n:Nat} {xs:List Value} {x:Int} (hs:a.eval s=v) (hown:wr.ownsRow w.heap.size 3 1 v n xs) (hb:Below w.heap.size w wr) (hu:a.eval u= .slice (some ⟨wr.heap.size,0,none⟩) 1 1) (hn:n<=1000000)
  (h:∀ g cap w',w'.ownsRow w.heap.size 3 1 (.slice (some ⟨g,0,none⟩) (n+1) cap) (n+1) (xs++[.int .i64 x])->Below w.heap.size w w'->(∀ t,3≠t->Keeps wr w' t)->K (a.put o.dst (.slice (some ⟨g,0,none⟩) (n+1) cap)) w'):
  if Region.wanted o (yielded ops a.tmps)=true then Oper.wp Tryz.prog o a ((wr.alloc (.cells #[.int .i64 x] 3)).drew) K Q else E:=by
 obtain⟨j0,hj0,jz0,jz1,jz2⟩:=info_parts Tryz.infoInt
 have hA:=(hown.alloc (.cells #[.int .i64 x] 3)).drew
 refine step_append_lies _ hgd s u _ ho w.heap.size 3 j0 _ 1 8 Tryz.underlying86 hj0 jz0 jz1 jz2 rfl (by omega) v n xs hs hA ⟨wr.heap.size,0,none⟩ 1 1 [.int .i64 x] hu (by rfl)
  (World.news_of_block (cs:= #[.int .i64 x]) (t:=3) (fr:=(0,0)) (heap_alloc_new wr _)) (by simp [Value.oneCell']) (by omega) (by unfold maxLen;omega) (by omega) (by have:=hb.size;simp;omega) (wr.heap.size+1) (by simp) ?_
 intro g cap w' ho hg hat hlt
 refine h g cap w' ho (below_grown2 (below_drew' (hb.alloc hb.size _)) (.inr hg) (fun k hk=>(hA.lt k hk).1) (by have:=hb.size;simp;omega)) (fun t ht=>?_)
 exact fun i c hc=>Keeps.grown (t:=t) hg (fun k hk=>by obtain⟨c,hc⟩:=own_type hA hk;exact⟨c,_,hc,ht⟩) i c (alloc_blk _ hc)
theorem tmod_pos {a b:Int}(h:0<=a):Int.tmod a b=a % b:=Int.tmod_eq_emod_of_nonneg h
theorem tdiv_pos {a b:Int}(h:0<=a):Int.tdiv a b=a / b:=Int.tdiv_eq_ediv_of_nonneg h
theorem w64 {n:Int}(h: -9223372036854775808<=n)(h2:n<=9223372036854775807):wrap64 n=n:=by unfold wrap64;omega
theorem prod_lt {a b q:Int}(ha:0<=a/\a<q)(hb:0<=b/\b<q)(hq:q<=8380417):0<=a * b/\a * b<=70231372333056:=by
 refine⟨Int.mul_nonneg ha.1 hb.1,?_⟩
 have:a * b<=8380416 * 8380416:=Int.mul_le_mul (by omega) (by omega) hb.1 (by omega)
 omega
theorem ref_mul (w:World){a b q:Int}(ha:0<=a/\a<q)(hb:0<=b/\b<q)(hq:q<=8380417):Calls Tryz.prog 135 #[.int .i64 a,.int .i64 b,.int .i64 q] w fun e w'=>e= .returned (.int .i64 (a * b % q))/\w'=w:=by
 obtain⟨h0,h1⟩:=prod_lt ha hb hq
 have q1:0<q:=by omega
 go_enter Tryz.func135,Tryz.ntmps135
 go_wp2_with fail
 exact bodyPost_ret (v:= .int .i64 (a * b % q)) (by simp [results,Tryz.results135,go_sem]) rfl ⟨rfl,rfl⟩
theorem mod_cases {a q:Int}(hq:0<q):(Int.tmod a q<0->a % q=Int.tmod a q+q)/\(0<=Int.tmod a q->a % q=Int.tmod a q)/\ -q<Int.tmod a q/\Int.tmod a q<q:=by
 have h1:=Int.tmod_lt_of_pos a hq
 have h2:=Int.emod_nonneg a (show q≠0 by omega)
 have h3:=Int.emod_lt_of_pos a hq
 have h4:= @Int.tmod_eq_emod a q
 split at h4<;> omega
theorem ref_add {w:World}{q:Int}{n:Nat}{A B:Option Addr}{f g:Nat->Int}(ca cb:Nat)(hf:Vec w A n f)(hg:Vec w B n g)(bf:∀ j,j<n->0<=f j/\f j<q)(bg:∀ j,j<n->0<=g j/\g j<q)(hq:q<=8380417)(hn:n<=256):Calls Tryz.prog 96 #[.agg #[.int .i64 q,.int .i64 n],.slice A n ca,.slice B n cb] w fun e w'=>∃ v,e= .returned v/\w'.ownsRow w.heap.size 3 1 v n (vecV n fun j=>(f j+g j) % q)/\Below w.heap.size w w':=by
 obtain⟨a,rfl,hf⟩:=hf
 obtain⟨b,rfl,hg⟩:=hg
 obtain⟨W,hW⟩:∃ W,W=w.alloc (.cells #[.int .i64 q,.int .i64 n] 23):=⟨_,rfl⟩
 obtain⟨kq,hkq⟩:∃ kq,kq=w.heap.size:=⟨_,rfl⟩
 have HH:Hid (W.ownsRow w.heap.size 3 1 (.slice none 0 0) 0 (vecV 0 fun j=>(f j+g j) % q)/\Below w.heap.size w W/\W.heap[kq]?=some (.cells #[.int .i64 q,.int .i64 n] 23 (0,0))):=by
  rw [hW,hkq];exact Lib.hid ⟨World.ownsRow_nil _ _ _ _,(Below.refl _ _).alloc (Nat.le_refl _) _,heap_alloc_new w _⟩
 have HF:=Lib.hid hf
 have HG:=Lib.hid hg
 have BF:=Lib.hid bf
 have BG:=Lib.hid bg
 clear hf hg bf bg
 go_enter Tryz.func96,Tryz.ntmps96
 go_wp2_with fail
 rw [<-hW]
 simp only [<-hkq]
 replace hkq:=Lib.hid hkq
 clear hW
 go_loopg [7,8] (n+1) (fun gk vo vi w'=>∃ i:Nat,vi= .int .i64 i/\i+gk=n+1/\i<=n/\Hid (w'.ownsRow w.heap.size 3 1 vo i (vecV i fun j=>(f j+g j) % q)/\Below w.heap.size w w'/\w'.heap[kq]?=some (.cells #[.int .i64 q,.int .i64 n] 23 (0,0))))
 case atStart=>exact⟨0,rfl,by omega,by omega,HH⟩
 case round=>
  obtain⟨i,rfl,hg,hi2,HR⟩:=hrel
  obtain⟨hown,hR,hq0⟩:=show wr.ownsRow w.heap.size 3 1 u7 i (vecV i fun j=>(f j+g j) % q)/\Below w.heap.size w wr/\wr.heap[kq]?=some (.cells #[.int .i64 q,.int .i64 n] 23 (0,0)) from HR
  clear HH HR
  have q0:wr.cell? ⟨kq,0,none⟩=some (.int .i64 q):=(cell_blk hq0 _).trans rfl
  have q1:wr.cell? ⟨kq,1,none⟩=some (.int .i64 n):=(cell_blk hq0 _).trans rfl
  by_cases hil:i<n
  ·obtain⟨k1,rfl⟩:∃ k1,gk=k1+1:=⟨gk - 1,by omega⟩
   have r0:(0:Int)<=(i:Int):=by omega
   have r1:(i:Int)<(n:Int):=by omega
   have r2:decide ((i:Int)<(n:Int))=true:=decide_eq_true r1
   have D0:=(show ∀ j,j<n->w.cell? (a.add j)=some (.int .i64 (f j)) from HF) i hil
   have D1:=(show ∀ j,j<n->w.cell? (b.add j)=some (.int .i64 (g j)) from HG) i hil
   obtain⟨f0,f1⟩:=(show ∀ j,j<n->0<=f j/\f j<q from BF) i hil
   obtain⟨g0,g1⟩:=(show ∀ j,j<n->0<=g j/\g j<q from BG) i hil
   have d0:=cell_since hR D0
   have d1:=cell_since hR D1
   have w1:IntKind.i64.wrap (f i+g i)=f i+g i:=IntWalk.i64_in _ (by omega)
   have w2:Int.tmod (f i+g i) q=(f i+g i) % q:=tmod_pos (by omega)
   have q2:q≠0:=by omega
   go_wp2_with fail
   go_region_held3 (fun w'=>w'.cell? (a.add i)=some (.int .i64 (f i))/\w'.cell? (b.add i)=some (.int .i64 (g i))/\w'.cell? ⟨kq,0,none⟩=some (.int .i64 q)) (refine⟨?_,?_,?_⟩<;> first|assumption|(refine alloc_cell _ ?_;assumption)) (first
    |((refine step_int (by rfl) (.tmp 15) (.tmp 28) (by rfl) (x:=(f i+g i) % q) (by rfl) hown hR (by rfl) (by omega) ?_);intro gg cap W1 hown1 hb1 hk1;have q0':=hk1 _ (by decide) _ _ hq0;have d0:=cell_since hb1 D0;have d1:=cell_since hb1 D1;have q0:W1.cell? ⟨kq,0,none⟩=some (.int .i64 q):=(cell_blk q0' _).trans rfl;have q1:W1.cell? ⟨kq,1,none⟩=some (.int .i64 n):=(cell_blk q0' _).trans rfl;have HN:Hid (W1.ownsRow w.heap.size 3 1 (.slice (some ⟨gg,0,none⟩) (i+1) cap) (i+1) (vecV (i+1) fun j=>(f j+g j) % q)/\Below w.heap.size w W1/\W1.heap[kq]?=some (.cells #[.int .i64 q,.int .i64 n] 23 (0,0))):=Lib.hid ⟨by rw [vecV_succ];exact hown1,hb1,q0'⟩;clear hown1 hb1 hk1 q0' hown hR hq0))
   clear d0 d1 D0 D1 q0 q1
   go_wp2_with fail
   go_roundg k1
   case measure=>omega
   case rel=>exact⟨i+1,by simp,by omega,by omega,HN⟩
  ·have hie:i=n:=by omega
   have t1:decide ((i:Int)<(n:Int))=false:=by simp;omega
   rw [hie] at hown
   go_wp2_with fail
   exact bodyPost_ret (v:=u7) (by simp [results,Tryz.results96,go_sem]) rfl ⟨_,rfl,hown,hR⟩
theorem ref_sub {w:World}{q:Int}{n:Nat}{A B:Option Addr}{f g:Nat->Int}(ca cb:Nat)(hf:Vec w A n f)(hg:Vec w B n g)(bf:∀ j,j<n->0<=f j/\f j<q)(bg:∀ j,j<n->0<=g j/\g j<q)(hq:q<=8380417)(hn:n<=256):Calls Tryz.prog 97 #[.agg #[.int .i64 q,.int .i64 n],.slice A n ca,.slice B n cb] w fun e w'=>∃ v,e= .returned v/\w'.ownsRow w.heap.size 3 1 v n (vecV n fun j=>(f j+q - g j) % q)/\Below w.heap.size w w':=by
 obtain⟨a,rfl,hf⟩:=hf
 obtain⟨b,rfl,hg⟩:=hg
 obtain⟨W,hW⟩:∃ W,W=w.alloc (.cells #[.int .i64 q,.int .i64 n] 23):=⟨_,rfl⟩
 obtain⟨kq,hkq⟩:∃ kq,kq=w.heap.size:=⟨_,rfl⟩
 have HH:Hid (W.ownsRow w.heap.size 3 1 (.slice none 0 0) 0 (vecV 0 fun j=>(f j+q - g j) % q)/\Below w.heap.size w W/\W.heap[kq]?=some (.cells #[.int .i64 q,.int .i64 n] 23 (0,0))):=by
  rw [hW,hkq];exact Lib.hid ⟨World.ownsRow_nil _ _ _ _,(Below.refl _ _).alloc (Nat.le_refl _) _,heap_alloc_new w _⟩
 have HF:=Lib.hid hf
 have HG:=Lib.hid hg
 have BF:=Lib.hid bf
 have BG:=Lib.hid bg
 clear hf hg bf bg
 go_enter Tryz.func97,Tryz.ntmps97
 go_wp2_with fail
 rw [<-hW]
 simp only [<-hkq]
 replace hkq:=Lib.hid hkq
 clear hW
 go_loopg [7,8] (n+1) (fun gk vo vi w'=>∃ i:Nat,vi= .int .i64 i/\i+gk=n+1/\i<=n/\Hid (w'.ownsRow w.heap.size 3 1 vo i (vecV i fun j=>(f j+q - g j) % q)/\Below w.heap.size w w'/\w'.heap[kq]?=some (.cells #[.int .i64 q,.int .i64 n] 23 (0,0))))
 case atStart=>exact⟨0,rfl,by omega,by omega,HH⟩
 case round=>
  obtain⟨i,rfl,hg,hi2,HR⟩:=hrel
  obtain⟨hown,hR,hq0⟩:=show wr.ownsRow w.heap.size 3 1 u7 i (vecV i fun j=>(f j+q - g j) % q)/\Below w.heap.size w wr/\wr.heap[kq]?=some (.cells #[.int .i64 q,.int .i64 n] 23 (0,0)) from HR
  clear HH HR
  have q0:wr.cell? ⟨kq,0,none⟩=some (.int .i64 q):=(cell_blk hq0 _).trans rfl
  have q1:wr.cell? ⟨kq,1,none⟩=some (.int .i64 n):=(cell_blk hq0 _).trans rfl
  by_cases hil:i<n
  ·obtain⟨k1,rfl⟩:∃ k1,gk=k1+1:=⟨gk - 1,by omega⟩
   have r0:(0:Int)<=(i:Int):=by omega
   have r1:(i:Int)<(n:Int):=by omega
   have r2:decide ((i:Int)<(n:Int))=true:=decide_eq_true r1
   have D0:=(show ∀ j,j<n->w.cell? (a.add j)=some (.int .i64 (f j)) from HF) i hil
   have D1:=(show ∀ j,j<n->w.cell? (b.add j)=some (.int .i64 (g j)) from HG) i hil
   obtain⟨f0,f1⟩:=(show ∀ j,j<n->0<=f j/\f j<q from BF) i hil
   obtain⟨g0,g1⟩:=(show ∀ j,j<n->0<=g j/\g j<q from BG) i hil
   have d0:=cell_since hR D0
   have d1:=cell_since hR D1
   have w1:IntKind.i64.wrap (f i+q)=f i+q:=IntWalk.i64_in _ (by omega)
   have w3:IntKind.i64.wrap (f i+q - g i)=f i+q - g i:=IntWalk.i64_in _ (by omega)
   have w2:Int.tmod (f i+q - g i) q=(f i+q - g i) % q:=tmod_pos (by omega)
   have q2:q≠0:=by omega
   go_wp2_with fail
   go_region_held3 (fun w'=>w'.cell? (a.add i)=some (.int .i64 (f i))/\w'.cell? (b.add i)=some (.int .i64 (g i))/\w'.cell? ⟨kq,0,none⟩=some (.int .i64 q)) (refine⟨?_,?_,?_⟩<;> first|assumption|(refine alloc_cell _ ?_;assumption)) (first
    |((refine step_int (by rfl) (.tmp 15) (.tmp 31) (by rfl) (x:=(f i+q - g i) % q) (by rfl) hown hR (by rfl) (by omega) ?_);intro gg cap W1 hown1 hb1 hk1;have q0':=hk1 _ (by decide) _ _ hq0;have d0:=cell_since hb1 D0;have d1:=cell_since hb1 D1;have q0:W1.cell? ⟨kq,0,none⟩=some (.int .i64 q):=(cell_blk q0' _).trans rfl;have q1:W1.cell? ⟨kq,1,none⟩=some (.int .i64 n):=(cell_blk q0' _).trans rfl;have HN:Hid (W1.ownsRow w.heap.size 3 1 (.slice (some ⟨gg,0,none⟩) (i+1) cap) (i+1) (vecV (i+1) fun j=>(f j+q - g j) % q)/\Below w.heap.size w W1/\W1.heap[kq]?=some (.cells #[.int .i64 q,.int .i64 n] 23 (0,0))):=Lib.hid ⟨by rw [vecV_succ];exact hown1,hb1,q0'⟩;clear hown1 hb1 hk1 q0' hown hR hq0))
   clear d0 d1 D0 D1 q0 q1
   go_wp2_with fail
   go_roundg k1
   case measure=>omega
   case rel=>exact⟨i+1,by simp,by omega,by omega,HN⟩
  ·have hie:i=n:=by omega
   have t1:decide ((i:Int)<(n:Int))=false:=by simp;omega
   rw [hie] at hown
   go_wp2_with fail
   exact bodyPost_ret (v:=u7) (by simp [results,Tryz.results97,go_sem]) rfl ⟨_,rfl,hown,hR⟩
theorem ref_point {w:World}{q:Int}{n:Nat}{A B:Option Addr}{f g:Nat->Int}(ca cb:Nat)(hf:Vec w A n f)(hg:Vec w B n g)(bf:∀ j,j<n->0<=f j/\f j<q)(bg:∀ j,j<n->0<=g j/\g j<q)(hq:q<=8380417)(hn:n<=256):Calls Tryz.prog 98 #[.agg #[.int .i64 q,.int .i64 n],.slice A n ca,.slice B n cb] w fun e w'=>∃ v,e= .returned v/\w'.ownsRow w.heap.size 3 1 v n (vecV n fun j=>f j * g j % q)/\Below w.heap.size w w':=by
 obtain⟨a,rfl,hf⟩:=hf
 obtain⟨b,rfl,hg⟩:=hg
 obtain⟨W,hW⟩:∃ W,W=w.alloc (.cells #[.int .i64 q,.int .i64 n] 23):=⟨_,rfl⟩
 obtain⟨kq,hkq⟩:∃ kq,kq=w.heap.size:=⟨_,rfl⟩
 have HH:Hid (W.ownsRow w.heap.size 3 1 (.slice none 0 0) 0 (vecV 0 fun j=>f j * g j % q)/\Below w.heap.size w W/\W.heap[kq]?=some (.cells #[.int .i64 q,.int .i64 n] 23 (0,0))):=by
  rw [hW,hkq];exact Lib.hid ⟨World.ownsRow_nil _ _ _ _,(Below.refl _ _).alloc (Nat.le_refl _) _,heap_alloc_new w _⟩
 have HF:=Lib.hid hf
 have HG:=Lib.hid hg
 have BF:=Lib.hid bf
 have BG:=Lib.hid bg
 clear hf hg bf bg
 go_enter Tryz.func98,Tryz.ntmps98
 go_wp2_with fail
 rw [<-hW]
 simp only [<-hkq]
 replace hkq:=Lib.hid hkq
 clear hW
 go_loopg [7,8] (n+1) (fun gk vo vi w'=>∃ i:Nat,vi= .int .i64 i/\i+gk=n+1/\i<=n/\Hid (w'.ownsRow w.heap.size 3 1 vo i (vecV i fun j=>f j * g j % q)/\Below w.heap.size w w'/\w'.heap[kq]?=some (.cells #[.int .i64 q,.int .i64 n] 23 (0,0))))
 case atStart=>exact⟨0,rfl,by omega,by omega,HH⟩
 case round=>
  obtain⟨i,rfl,hg,hi2,HR⟩:=hrel
  obtain⟨hown,hR,hq0⟩:=show wr.ownsRow w.heap.size 3 1 u7 i (vecV i fun j=>f j * g j % q)/\Below w.heap.size w wr/\wr.heap[kq]?=some (.cells #[.int .i64 q,.int .i64 n] 23 (0,0)) from HR
  clear HH HR
  have q0:wr.cell? ⟨kq,0,none⟩=some (.int .i64 q):=(cell_blk hq0 _).trans rfl
  have q1:wr.cell? ⟨kq,1,none⟩=some (.int .i64 n):=(cell_blk hq0 _).trans rfl
  by_cases hil:i<n
  ·obtain⟨k1,rfl⟩:∃ k1,gk=k1+1:=⟨gk - 1,by omega⟩
   have r0:(0:Int)<=(i:Int):=by omega
   have r1:(i:Int)<(n:Int):=by omega
   have r2:decide ((i:Int)<(n:Int))=true:=decide_eq_true r1
   have D0:=(show ∀ j,j<n->w.cell? (a.add j)=some (.int .i64 (f j)) from HF) i hil
   have D1:=(show ∀ j,j<n->w.cell? (b.add j)=some (.int .i64 (g j)) from HG) i hil
   obtain⟨f0,f1⟩:=(show ∀ j,j<n->0<=f j/\f j<q from BF) i hil
   obtain⟨g0,g1⟩:=(show ∀ j,j<n->0<=g j/\g j<q from BG) i hil
   have d0:=cell_since hR D0
   have d1:=cell_since hR D1
   go_wp2_with fail
   go_region_held3 (fun w'=>w'.cell? (a.add i)=some (.int .i64 (f i))/\w'.cell? (b.add i)=some (.int .i64 (g i))/\w'.cell? ⟨kq,0,none⟩=some (.int .i64 q)) (refine⟨?_,?_,?_⟩<;> first|assumption|(refine alloc_cell _ ?_;assumption)) (first
    |(go_at_call 135;refine (ref_mul _ (show 0<=f i/\f i<q from⟨f0,f1⟩) (show 0<=g i/\g i<q from⟨g0,g1⟩) hq).mono ?_;rintro e w2 ⟨rfl,rfl⟩)
    |((refine step_int (by rfl) (.tmp 15) (.tmp 27) (by rfl) (x:=f i * g i % q) (by rfl) hown hR (by rfl) (by omega) ?_);intro gg cap W1 hown1 hb1 hk1;have q0':=hk1 _ (by decide) _ _ hq0;have d0:=cell_since hb1 D0;have d1:=cell_since hb1 D1;have q0:W1.cell? ⟨kq,0,none⟩=some (.int .i64 q):=(cell_blk q0' _).trans rfl;have q1:W1.cell? ⟨kq,1,none⟩=some (.int .i64 n):=(cell_blk q0' _).trans rfl;have HN:Hid (W1.ownsRow w.heap.size 3 1 (.slice (some ⟨gg,0,none⟩) (i+1) cap) (i+1) (vecV (i+1) fun j=>f j * g j % q)/\Below w.heap.size w W1/\W1.heap[kq]?=some (.cells #[.int .i64 q,.int .i64 n] 23 (0,0))):=Lib.hid ⟨by rw [vecV_succ];exact hown1,hb1,q0'⟩;clear hown1 hb1 hk1 q0' hown hR hq0))
   clear d0 d1 D0 D1 q0 q1
   go_wp2_with fail
   go_roundg k1
   case measure=>omega
   case rel=>exact⟨i+1,by simp,by omega,by omega,HN⟩
  ·have hie:i=n:=by omega
   have t1:decide ((i:Int)<(n:Int))=false:=by simp;omega
   rw [hie] at hown
   go_wp2_with fail
   exact bodyPost_ret (v:=u7) (by simp [results,Tryz.results98,go_sem]) rfl ⟨_,rfl,hown,hR⟩
theorem ref_mod (w:World){a q:Int}(ha: -4611686018427387904<=a/\a<=4611686018427387904)(hq:0<q/\q<=8380417):Calls Tryz.prog 136 #[.int .i64 a,.int .i64 q] w fun e w'=>e= .returned (.int .i64 (a % q))/\w'=w:=by
 obtain⟨h1,h2,h3,h4⟩:=mod_cases (a:=a) hq.1
 obtain⟨t,ht⟩:∃ t,t=Int.tmod a q:=⟨_,rfl⟩
 obtain⟨m,hm⟩:∃ m,m=a % q:=⟨_,rfl⟩
 rw [<-ht,<-hm] at h1 h2
 rw [<-ht] at h3 h4
 rw [<-hm]
 have hq0:q≠0:=by omega
 have HM:=Lib.hid hm
 have w1:Int.tmod a q=t:=ht.symm
 clear ht hm
 by_cases hn:t<0
 ·have e:=Lib.hid (h1 hn)
  have t0:decide (t<0)=true:=decide_eq_true hn
  clear h1 h2
  have w2:IntKind.i64.wrap (t+q)=t+q:=IntWalk.i64_in _ (by omega)
  have w3:wrap64 (t+q)=t+q:=by unfold wrap64;omega
  by_cases h0:0<=a
  ·exfalso;have:=Int.tmod_nonneg q h0;omega
  go_enter Tryz.func136,Tryz.ntmps136
  go_wp2_with fail
  exact bodyPost_ret (v:= .int .i64 (t+q)) (by simp [results,Tryz.results136,go_sem]) rfl ⟨by rw [show m=_ from e],rfl⟩
 ·have e:=Lib.hid (h2 (by omega))
  have t0:decide (t<0)=false:=decide_eq_false hn
  clear h1 h2
  go_enter Tryz.func136,Tryz.ntmps136
  go_wp2_with fail
  exact bodyPost_ret (v:= .int .i64 t) (by simp [results,Tryz.results136,go_sem]) rfl ⟨by rw [show m=_ from e],rfl⟩
theorem shl_lt {f:Int}{K:Nat}(h0:0<=f)(h1:f<8380417)(hK:K<=22):0<=f * 2 ^ K/\f * 2 ^ K<=35150012350464/\(1:Int)<=2 ^ K/\(2:Int) ^ K<=4194304:=by
 have h2:(2:Nat) ^ K<=2 ^ 22:=Nat.pow_le_pow_right (by decide) hK
 have h3:1<=(2:Nat) ^ K:=Nat.one_le_two_pow
 have h4:((2:Int) ^ K)=((2 ^ K:Nat):Int):=by simp
 have h5:f * 2 ^ K<=8380416 * 4194304:=Int.mul_le_mul (by omega) (by omega) (by omega) (by omega)
 exact⟨Int.mul_nonneg h0 (by omega),by omega,by omega,by omega⟩
theorem ref_down1 (w:World){f q:Int}{K:Nat}(hf:0<=f/\f<q)(hq:17<=q/\q<=8380417)(hK:K<=22):Calls Tryz.prog 137 #[.int .i64 q,.int .i64 K,.int .i64 f] w fun e w'=>e= .returned (.int .i64 ((f * 2 ^ K+(q - 1) / 2) / q % 2 ^ K))/\w'=w:=by
 obtain⟨h0,h1,h2,h3⟩:=shl_lt hf.1 (show f<8380417 by omega) hK
 have e:(wrap64 ((wrap64 (wrap64 (f * 2 ^ K)+(q - 1) / 2)).tdiv q)).tmod (2 ^ K)=(f * 2 ^ K+(q - 1) / 2) / q % 2 ^ K:=by
  have k0:=Int.ediv_nonneg (show 0<=f * 2 ^ K+(q - 1) / 2 by omega) (show 0<=q by omega)
  have k1:=Int.ediv_le_self q (show 0<=f * 2 ^ K+(q - 1) / 2 by omega)
  rw [w64 (n:=f * 2 ^ K) (by omega) (by omega),w64 (n:=f * 2 ^ K+(q - 1) / 2) (by omega) (by omega),tdiv_pos (by omega),w64 (by omega) (by omega),tmod_pos (by omega)]
 have h7:IntKind.u64.wrap (K:Int)=K:=IntWalk.u64_in _ (by omega)
 have q3:q≠0:=by omega
 have E:=Lib.hid e
 clear e h0 h1
 go_enter Tryz.func137,Tryz.ntmps137
 go_wp2_with fail
 exact bodyPost_ret (v:= .int .i64 ((wrap64 ((wrap64 (wrap64 (f * 2 ^ K)+(q - 1) / 2)).tdiv q)).tmod (2 ^ K))) (by simp [results,Tryz.results137,go_sem]) rfl ⟨by rw [show _=(f * 2 ^ K+(q - 1) / 2) / q % 2 ^ K from E],rfl⟩
theorem ref_up1 (w:World){f q:Int}{K:Nat}(hf:0<=f/\f<2 ^ K)(hq:17<=q/\q<=8380417)(hK:1<=K/\K<=22):Calls Tryz.prog 138 #[.int .i64 q,.int .i64 K,.int .i64 f] w fun e w'=>e= .returned (.int .i64 ((q * f+2 ^ (K - 1)) / 2 ^ K))/\w'=w:=by
 have h2:(2:Nat) ^ K<=2 ^ 22:=Nat.pow_le_pow_right (by decide) hK.2
 have h3:(2:Nat) ^ (K - 1)<=2 ^ 22:=Nat.pow_le_pow_right (by decide) (by omega)
 have h4:((2:Int) ^ K)=((2 ^ K:Nat):Int):=by simp
 have h5:((2:Int) ^ (K - 1))=((2 ^ (K - 1):Nat):Int):=by simp
 have h6:1<=(2:Nat) ^ (K - 1):=Nat.one_le_two_pow
 have h0:0<=q * f:=Int.mul_nonneg (by omega) hf.1
 have h1:q * f<=8380417 * 4194304:=Int.mul_le_mul hq.2 (by omega) hf.1 (by omega)
 have e:wrap64 (wrap64 (q * f)+wrap64 (2 ^ (K - 1))) / 2 ^ K=(q * f+2 ^ (K - 1)) / 2 ^ K:=by
  rw [w64 (n:=q * f) (by omega) (by omega),w64 (n:=2 ^ (K - 1)) (by omega) (by omega),w64 (by omega) (by omega)]
 have E:=Lib.hid e
 clear e h0 h1 h2 h3 h4 h5 h6
 go_enter Tryz.func138,Tryz.ntmps138
 go_wp2_with fail
 exact bodyPost_ret (v:= .int .i64 (wrap64 (wrap64 (q * f)+wrap64 (2 ^ (K - 1))) / 2 ^ K)) (by simp [results,Tryz.results138,go_sem]) rfl ⟨by rw [show _=(q * f+2 ^ (K - 1)) / 2 ^ K from E],rfl⟩
end Go.Proofs.YtkplfaionpplaaaGreatDoor
