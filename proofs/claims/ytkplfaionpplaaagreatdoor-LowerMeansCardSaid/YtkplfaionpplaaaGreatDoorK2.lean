/- Part 2: P6, P7, P8, P9, P10. -/
import Derived.Test.YtkplfaionpplaaaGreatDoorK1
set_option linter.unusedVariables false
set_option linter.unusedSimpArgs false
namespace Go.Proofs.YtkplfaionpplaaaGreatDoor.Al
def mn (q x:Int):Int:=if x<q - x then x else q - x
def nacc (g:Nat->Bool):Nat->Int
 |0=>1
 |k+1=>if g k then nacc g k else 0
theorem nacc_01 (g:Nat->Bool)(k:Nat):nacc g k=0\/nacc g k=1:=by
 induction k with
 |zero=>exact .inr rfl
 |succ k ih=>unfold nacc;split<;> simp_all
theorem wand_01 {x:Int}(h:x=0\/x=1)(b:Bool):wand x (if b then 1 else 0)=if b then x else 0:=by
 rcases h with rfl|rfl<;> cases b<;> rfl
def normB (E:Env)(a:Nat):List CI:=[ldC E 12 a,(⟨4,13,19,12,0,0⟩,⟨1,E.q⟩),ci 13 16 12 13 0 0,ci 14 12 16 12 13 0,ci 13 16 12 21 0 0,ci 7 22 22 16 0 0]
section
variable {c:List CI} {E:Env} {p:Nat}
def near (E:Env)(K:Int)(V:Vs)(a:Nat)(k:Nat):Bool:=decide (mn E.q (V a k)<K)
theorem norm_loop (hE:E.Ok){a:Nat}(ha:a<E.nv)(K:Int)(hc:At c p (eachC E.n p (normB E a))):
  ∃ N L,N<=1+E.n * 9/\∀ r0 r m tp V used,RegOk E r0 r->r 21=K->r 22=1->MemOk E tp V used m->
   W c E.mem ⟨p,r,m⟩ (fun n' l s=>n'=N/\l=L/\s.pc=p+10/\RegOk E r0 s.r/\s.r 22=nacc (near E K V a) E.n/\s.m=m):=by
 have q0:=hE.q0;have q1:=hE.q1
 obtain⟨N,L,hN,h⟩:=each_loop (c:=c) (M:=E.mem) (p:=p) (n:=E.n) (B:=6) (body:=normB E a) (G:=(Nat->Int)×Vs×Nat×(Nat->Int)×List Int)
  (I:=fun g k r m=>RegOk E g.1 r/\r 21=K/\r 22=nacc (near E K g.2.1 a) k/\MemOk E g.2.2.2.2 g.2.1 g.2.2.1 m/\m=g.2.2.2.1) hc hE.n1 (by have:=hE.n0;omega)
  (fun g k r m v ⟨a,b,e,f,i⟩=>⟨a.upd 9 v (by omega),by simpa [upd] using b,by simpa [upd] using e,f,i⟩)
  (fun g k r m v ⟨a,b,e,f,i⟩=>⟨a.upd 16 v (by omega),by simpa [upd] using b,by simpa [upd] using e,f,i⟩)
  (fun g k r m ⟨a,_⟩=>⟨a.o,a.n⟩) (by
   intro k hk
   apply Exists.intro
   apply Exists.intro
   refine⟨?_,?_⟩
   rotate_left 1
   ·rintro⟨r0,V,used,m0,tp⟩ r m ⟨hr,h21,h22,hm,rfl⟩ h9
    dsimp only at hr h22 hm
    have ra:=hm.vr a k ha hk
    refine W.ldv hE hc.tail.left hm h9 ha hk fun h=>?_
    refine W.sub E.q (V a k) h (by simp [upd,hr.q]) (by simp [upd]) (by omega) (by omega) (by omega) (by omega) (by omega) (by omega) fun h=>?_
    rw [wrapU_id (by omega) (by omega)]
    refine W.less h fun h=>?_
    refine W.sel h fun h=>?_
    refine W.less h fun h=>?_
    refine W.and h fun h=>W.done ?_
    refine⟨rfl,rfl,rfl,⟨?_,by simpa [upd] using h21,?_,hm,rfl⟩,by simpa [upd] using h9⟩
    ·exact ((((((hr.upd _ _ (by decide)).upd _ _ (by decide)).upd _ _ (by decide)).upd _ _ (by decide)).upd _ _ (by decide)).upd _ _ (by decide))
    ·show _=if near E K V a k then nacc (near E K V a) k else 0
     rw [<-wand_01 (nacc_01 _ _)]
     simp only [upd,near,mn]
     simp
     by_cases h1:V a k<E.q - V a k<;> simp [h1,h22,h21]
   ·exact Nat.le_refl _)
 exact⟨N,L,by omega,fun r0 r m tp V used a b e g=>(h (r0,V,used,m,tp) r m ⟨a,b,e,g,rfl⟩).mono (by
  rintro _ _ s ⟨e1,e2,e3,e4,e5,e6,e7,e8⟩
  exact⟨e1,e2,e3,e4,e6,e8⟩)⟩
theorem zero_loop (hE:E.Ok){d:Nat}(hd:d<E.nv)(hc:At c p (eachC E.n p (zeroB E d))):
  ∃ N L,N<=1+E.n * 4/\∀ r0 r m tp V used x,RegOk E r0 r->r 22=x->MemOk E tp V used m->
   W c E.mem ⟨p,r,m⟩ (fun n' l s=>n'=N/\l=L/\s.pc=p+5/\RegOk E r0 s.r/\s.r 22=x/\MemOk E tp (partV V d E.n (fun _=>0)) used s.m):=by
 have q0:=hE.q0
 obtain⟨N,L,hN,h⟩:=each_loop (c:=c) (M:=E.mem) (p:=p) (n:=E.n) (B:=1) (body:=zeroB E d) (G:=(Nat->Int)×Vs×Nat×Int×List Int)
  (I:=fun g k r m=>RegOk E g.1 r/\r 22=g.2.2.2.1/\MemOk E g.2.2.2.2 (partV g.2.1 d k (fun _=>0)) g.2.2.1 m) hc hE.n1 (by have:=hE.n0;omega)
  (fun g k r m v ⟨a,b,f⟩=>⟨a.upd 9 v (by omega),by simpa [upd] using b,f⟩)
  (fun g k r m v ⟨a,b,f⟩=>⟨a.upd 16 v (by omega),by simpa [upd] using b,f⟩)
  (fun g k r m ⟨a,_⟩=>⟨a.o,a.n⟩) (by
   intro k hk
   apply Exists.intro
   apply Exists.intro
   refine⟨?_,?_⟩
   rotate_left 1
   ·rintro⟨r0,V,used,x,tp⟩ r m ⟨hr,h22,hm⟩ h9
    refine W.stv hE hc.tail.left h9 hd hk fun h2=>W.done ?_
    refine⟨rfl,rfl,rfl,⟨hr,h22,?_⟩,h9⟩
    rw [<-partV_succ]
    show MemOk E _ _ used (upd m _ (r 0))
    rw [hr.z]
    exact hm.store hd hk (by omega)
   ·exact Nat.le_refl _)
 exact⟨N,L,by omega,fun r0 r m tp V used x a b g=>(h (r0,V,used,x,tp) r m ⟨a,b,by simpa [partV_zero] using g⟩)⟩
end
def cterm (a b:Nat->Int)(n i j:Nat):Int:=if j<=i then a j * b (i - j) else -(a j * b (n+i - j))
def csum (a b:Nat->Int)(n i:Nat):Nat->Int
 |0=>0
 |j+1=>csum a b n i j+cterm a b n i j
theorem csum_bound {a b:Nat->Int}{n i:Nat}{q:Nat}(hq:17<=q)(ha:∀ k,k<n->0<=a k/\a k<q)(hb:∀ k,k<n->0<=b k/\b k<q)(hi:i<n):
  ∀ j,j<=n-> -(j * sqr q)<=csum a b n i j/\csum a b n i j<=j * sqr q/\(j<=i+1->0<=csum a b n i j):=by
 intro j
 induction j with
 |zero=>intro _;simp [csum]
 |succ j ih=>
  intro hj
  obtain⟨h1,h2,h3⟩:=ih (by omega)
  have e:((j+1:Nat):Int) * sqr q=(j:Int) * sqr q+sqr q:=by rw [Int.natCast_add,Int.add_mul];simp
  unfold csum cterm
  split
  ·have:=mul_range hq (ha j (by omega)) (hb (i - j) (by omega))
   refine⟨by omega,by omega,fun _=>?_⟩
   have:=h3 (by omega)
   omega
  ·have:=mul_range hq (ha j (by omega)) (hb (n+i - j) (by omega))
   exact⟨by omega,by omega,fun _=>by omega⟩
def mostC (E:Env):Int:=(E.n:Int) * sqr E.q
def overC (E:Env):Int:=(mostC E+E.q - 1) / E.q * E.q
def termC (E:Env)(a b:Nat)(op low:Int):List CI:=
 [ci 15 12 11 0 0 (E.place a:Nat),ci 15 13 14 0 0 (E.place b:Nat),(⟨5,12,12,13,0,0⟩,⟨0,sqr E.q⟩),(⟨op,22,22,12,0,0⟩,⟨low,mostC E⟩),upC E.n 11]
def convB (E:Env)(p:Nat)(a b:Nat):List CI:=
 [ci 1 22 0 0 0 0,ci 1 11 0 0 0 0,ci 2 14 9 0 0 0]++(termC E a b 3 0++([ci 18 0 14 0 0 ((p+11:Nat):Int),downC E.n 14,ci 17 0 0 0 0 ((p+3:Nat):Int)]++
  ([ci 13 16 11 10 0 0,ci 18 0 16 0 0 ((p+22:Nat):Int),(⟨4,14,10,1,0,0⟩,⟨0,E.n⟩)]++(termC E a b 4 (-mostC E)++([downC E.n 14,ci 13 16 11 10 0 0,ci 19 0 16 0 0 ((p+14:Nat):Int)]++
  ((⟨3,15,22,21,0,0⟩,⟨0,overC E+mostC E⟩) :: (reduceC E.q (overC E+mostC E) 15++[ci 16 0 9 15 0 (E.scratch:Nat)])))))))
def conv2B (E:Env)(d:Nat):List CI:=[ci 15 15 9 0 0 (E.scratch:Nat),stC E 15 d]
theorem most_facts {E:Env}(hE:E.Ok):0<=sqr E.q/\0<=mostC E/\mostC E<=18014398509481984/\mostC E<=overC E/\overC E<=mostC E+E.q/\overC E % E.q=0/\sqr E.q<=mostC E:=by
 have q0:=hE.q0
 obtain⟨s1,s0⟩:=sqr_lt hE.q1 hE.q0
 have n0:=hE.n0;have n1:=hE.n1
 have m0:0<=mostC E:=Int.mul_nonneg (by omega) s0
 have m1:mostC E<=256 * 70368744177664:=Int.mul_le_mul (by omega) s1 s0 (by omega)
 have m2:sqr E.q<=mostC E:=by have:=Int.mul_le_mul_of_nonneg_right (show (1:Int)<=E.n by omega) s0;unfold mostC;omega
 have o1:overC E<=mostC E+E.q - 1:=Int.ediv_mul_le _ (by omega)
 have o2:mostC E+E.q - 1<overC E+E.q:=by
  have:=Int.lt_ediv_add_one_mul_self (mostC E+E.q - 1) (show (0:Int)<E.q by omega)
  unfold overC;rw [Int.add_mul] at this;omega
 refine⟨s0,m0,by omega,by omega,by omega,?_,m2⟩
 unfold overC;exact Int.mul_emod_left _ _
section
variable {c:List CI} {E:Env} {p:Nat} {r0 r m:Nat->Int} {tp:List Int} {V:Vs} {used:Nat} {l:List CI} {Q:Nat->List Leak->Cfg->Prop}
theorem W.ldx (hE:E.Ok){x y:Int}{v k:Nat}(h:At c p (ci 15 x y 0 0 (E.place v:Nat) :: l))(hm:MemOk E tp V used m)(h9:r y.toNat=k)(hv:v<E.nv)(hk:k<E.n)
  (K:At c (p+1) l->W c E.mem ⟨p+1,upd r x.toNat (V v k),m⟩ (fun n l2 s2=>Q (n+1) (⟨1,p⟩ :: ⟨3,(E.place v+k:Nat)⟩ :: l2) s2)):W c E.mem ⟨p,r,m⟩ Q:=by
 have hp:=Env.place_lt hv hk
 have hM:=hE.mem_le
 refine W.ld (E.place v+k) h ?_ ?_ hM fun h=>?_
 ·rw [h9];omega
 ·unfold Env.mem Env.scratch;omega
 ·rw [hm.mv v k hv hk];exact K h
structure TermOk (E:Env)(r0 r:Nat->Int)(i j t:Nat)(S:Int):Prop where
 reg:RegOk E r0 r
 h9:r 9=i
 h11:r 11=j
 h14:r 14=t
 h21:r 21=overC E
 h22:r 22=wrapU S
theorem W.term {op low S:Int}{a b i j t:Nat}(hE:E.Ok)(ha:a<E.nv)(hb:b<E.nv)(hop:op=3\/op=4)(h:At c p (termC E a b op low++l))(T:TermOk E r0 r i j t S)(hm:MemOk E tp V used m)(hj:j<E.n)(ht:t<E.n)
  (S':Int) (hS':S'=if op=3 then S+V a j * V b t else S - V a j * V b t) (hlow:low<=S') (hhigh:S'<=mostC E) (_hS: -mostC E<=S/\S<=mostC E) (hl: -mostC E<=low)
  (K:∀ r',At c (p+5) l->TermOk E r0 r' i (j+1) t S'->W c E.mem ⟨p+5,r',m⟩ (fun n l2 s2=>Q (n+5) (⟨1,p⟩ :: ⟨3,(E.place a+j:Nat)⟩ :: ⟨1,(p+1:Nat)⟩ :: ⟨3,(E.place b+t:Nat)⟩ :: ⟨1,(p+2:Nat)⟩ :: ⟨1,(p+3:Nat)⟩ :: ⟨1,(p+4:Nat)⟩ :: l2) s2)):W c E.mem ⟨p,r,m⟩ Q:=by
 obtain⟨f1,f2,f3,f4,f5,f6,f7⟩:=most_facts hE
 have q0:=hE.q0;have q1:=hE.q1;have n1:=hE.n1
 obtain⟨hr,h9,h11,h14,h21,h22⟩:=T
 have ra:=hm.vr a j ha hj;have rb:=hm.vr b t hb ht;have rab:=mul_range hE.q0 ra rb
 refine W.ldx hE h hm h11 ha hj fun h=>?_
 refine W.ldx hE h hm (by simp [upd];exact h14) hb ht fun h=>?_
 refine W.mul (V a j) (V b t) h (by simp [upd]) (by simp [upd]) ra.1 (by omega) rb.1 (by omega) rab.1 rab.1 rab.2 (by omega) fun h=>?_
 have fin:∀ Z,Z=S'->TermOk E r0 (upd (upd (upd (upd (upd r 12 (V a j)) 13 (V b t)) 12 (V a j * V b t)) 22 (wrapU Z)) 11 ((j:Int)+1)) i (j+1) t S':=by
  rintro Z rfl
  refine⟨?_,by simpa [upd] using h9,by simp [upd],by simpa [upd] using h14,by simpa [upd] using h21,by simp [upd]⟩
  exact (((((hr.upd _ _ (by decide)).upd _ _ (by decide)).upd _ _ (by decide)).upd _ _ (by decide)).upd _ _ (by decide))
 rcases hop with rfl|rfl
 ·rw [if_pos rfl] at hS'
  refine W.addW (A:=S) (B:=V a j * V b t) h (by simpa [upd] using h22) (by simp [upd];exact (wrapU_id rab.1 (by omega)).symm) ⟨by omega,by omega⟩ ⟨by omega,by omega⟩ ⟨by omega,by omega⟩ (by omega) (by omega) fun h=>?_
  refine W.add (j:Int) 1 h (by simpa [upd] using h11) (by simpa [upd] using hr.o) (by omega) (by omega) (by omega) (by omega) (by omega) (by omega) fun h=>?_
  exact K _ h (fin _ hS'.symm)
 ·rw [if_neg (by decide)] at hS'
  refine W.subW (A:=S) (B:=V a j * V b t) h (by simpa [upd] using h22) (by simp [upd];exact (wrapU_id rab.1 (by omega)).symm) ⟨by omega,by omega⟩ ⟨by omega,by omega⟩ ⟨by omega,by omega⟩ (by omega) (by omega) fun h=>?_
  refine W.add (j:Int) 1 h (by simpa [upd] using h11) (by simpa [upd] using hr.o) (by omega) (by omega) (by omega) (by omega) (by omega) (by omega) fun h=>?_
  exact K _ h (fin _ hS'.symm)
theorem TermOk.upd {i j t:Nat}{S:Int}(T:TermOk E r0 r i j t S)(x:Nat)(v:Int)(hx:x=16\/x=15\/x=17\/x=18):TermOk E r0 (upd r x v) i j t S:=by
 obtain⟨hr,h9,h11,h14,h21,h22⟩:=T
 refine⟨hr.upd _ _ (by omega),?_,?_,?_,?_,?_⟩
 all_goals rw [upd_ne _ _ _ _ (by omega)]
 all_goals assumption
theorem TermOk.set14 {i j t:Nat}{S:Int}(T:TermOk E r0 r i j t S)(u:Nat)(x:Int)(h:x=u):TermOk E r0 (Al.upd r 14 x) i j u S:=by
 obtain⟨hr,h9,h11,h14,h21,h22⟩:=T
 refine⟨hr.upd _ _ (by omega),?_,?_,by rw [h];simp [Al.upd],?_,?_⟩
 all_goals rw [upd_ne _ _ _ _ (by omega)]
 all_goals assumption
end
section
variable {c:List CI} {E:Env} {p:Nat}
theorem conv_one (hE:E.Ok){a b:Nat}(ha:a<E.nv)(hb:b<E.nv)(hc:At c p (convB E p a b)){i:Nat}(hi:i<E.n):
  ∀ d j,j+d=i->∃ N L,N<=8 * (d+1)/\∀ r0 r m tp V used,TermOk E r0 r i j (i - j) (csum (V a) (V b) E.n i j)->MemOk E tp V used m->
   W c E.mem ⟨p+3,r,m⟩ (fun n' l s=>n'=N/\l=L/\s.pc=p+11/\(∃ t,TermOk E r0 s.r i (i+1) t (csum (V a) (V b) E.n i (i+1)))/\s.m=m):=by
 have n1:=hE.n1
 have h3:At c (p+3) _:=hc.right
 obtain⟨f1,f2,f3,f4,f5,f6,f7⟩:=most_facts hE
 have hjm:∀ j:Nat,j<=E.n->(j:Int) * sqr E.q<=mostC E:=fun j hj=>Int.mul_le_mul_of_nonneg_right (by omega) f1
 intro d
 induction d with
 |zero=>
  intro j hj
  obtain rfl:j=i:=by omega
  apply Exists.intro
  apply Exists.intro
  refine⟨?_,?_⟩
  rotate_left 1
  ·intro r0 r m tp V used T hm
   have bd:=csum_bound (i:=j) hE.q0 (fun k hk=>hm.vr a k ha hk) (fun k hk=>hm.vr b k hb hk) hi
   obtain⟨b1,b2,b3⟩:=bd j (by omega)
   obtain⟨b4,b5,b6⟩:=bd (j+1) (by omega)
   have:=hjm j (by omega);have:=hjm (j+1) (by omega)
   refine W.term hE ha hb (.inl rfl) h3 T hm hi (by omega) (csum (V a) (V b) E.n j (j+1)) (by simp [csum,cterm]) (b6 (by omega)) (by omega) (by omega) (by omega) fun r' h T'=>?_
   refine W.bz_go (p+11) h (by simp [T'.h14]) rfl (W.done ?_)
   exact⟨rfl,rfl,rfl,⟨_,T'⟩,rfl⟩
  ·omega
 |succ d ih=>
  intro j hj
  obtain⟨N,L,hN,ih⟩:=ih (j+1) (by omega)
  apply Exists.intro
  apply Exists.intro
  refine⟨?_,?_⟩
  rotate_left 1
  ·intro r0 r m tp V used T hm
   have bd:=csum_bound (i:=i) hE.q0 (fun k hk=>hm.vr a k ha hk) (fun k hk=>hm.vr b k hb hk) hi
   obtain⟨b1,b2,b3⟩:=bd j (by omega)
   obtain⟨b4,b5,b6⟩:=bd (j+1) (by omega)
   have:=hjm j (by omega);have:=hjm (j+1) (by omega)
   refine W.term hE ha hb (.inl rfl) h3 T hm (by omega) (by omega) (csum (V a) (V b) E.n i (j+1)) (by simp [csum,cterm];omega) (b6 (by omega)) (by omega) (by omega) (by omega) fun r' h T'=>?_
   refine W.bz_no h (by have:=T'.h14;simp [this];omega) fun h=>?_
   refine W.sub ((i - j:Nat):Int) 1 h T'.h14 T'.reg.o (by omega) (by omega) (by omega) (by omega) (by omega) (by omega) fun h=>?_
   rw [wrapU_id (by omega) (by omega)]
   refine W.br (p+3) h rfl ?_
   refine W.mono (ih r0 _ m tp V used (T'.set14 (i - (j+1)) _ (by omega)) hm) ?_
   rintro _ _ s ⟨rfl,rfl,e3,e4,e5⟩
   exact⟨rfl,rfl,e3,e4,e5⟩
  ·omega
theorem conv_two (hE:E.Ok){a b:Nat}(ha:a<E.nv)(hb:b<E.nv)(hc:At c p (convB E p a b)){i:Nat}(hi:i<E.n):
  ∀ d j,i<j->j+d+1=E.n->∃ N L,N<=8 * (d+1)/\∀ r0 r m tp V used,TermOk E r0 r i j (E.n+i - j) (csum (V a) (V b) E.n i j)->MemOk E tp V used m->
   W c E.mem ⟨p+14,r,m⟩ (fun n' l s=>n'=N/\l=L/\s.pc=p+22/\(∃ t,TermOk E r0 s.r i E.n t (csum (V a) (V b) E.n i E.n))/\s.m=m):=by
 have n1:=hE.n1
 have h14:At c (p+14) _:=hc.right.right.right.right
 obtain⟨f1,f2,f3,f4,f5,f6,f7⟩:=most_facts hE
 have hjm:∀ j:Nat,j<=E.n->(j:Int) * sqr E.q<=mostC E:=fun j hj=>Int.mul_le_mul_of_nonneg_right (by omega) f1
 intro d
 induction d with
 |zero=>
  intro j hij hj
  apply Exists.intro
  apply Exists.intro
  refine⟨?_,?_⟩
  rotate_left 1
  ·intro r0 r m tp V used T hm
   have bd:=csum_bound (i:=i) hE.q0 (fun k hk=>hm.vr a k ha hk) (fun k hk=>hm.vr b k hb hk) hi
   obtain⟨b1,b2,b3⟩:=bd j (by omega)
   obtain⟨b4,b5,b6⟩:=bd (j+1) (by omega)
   have:=hjm j (by omega);have:=hjm (j+1) (by omega)
   refine W.term hE ha hb (.inr rfl) h14 T hm (by omega) (by omega) (csum (V a) (V b) E.n i (j+1)) (by simp [csum,cterm,show¬j<=i by omega];omega) (by omega) (by omega) (by omega) (by omega) fun r' h T'=>?_
   refine W.sub ((E.n+i - j:Nat):Int) 1 h T'.h14 T'.reg.o (by omega) (by omega) (by omega) (by omega) (by omega) (by omega) fun h=>?_
   rw [wrapU_id (by omega) (by omega)]
   refine W.less h fun h=>?_
   refine W.bnz_no h (by simp [upd,T'.h11,T'.reg.n];omega) fun h=>W.done ?_
   have hjn:j+1=E.n:=by omega
   rw [hjn] at T'
   refine⟨rfl,rfl,rfl,⟨_,(T'.set14 (E.n+i - j - 1) _ (by omega)).upd _ _ (by decide)⟩,rfl⟩
  ·omega
 |succ d ih=>
  intro j hij hj
  obtain⟨N,L,hN,ih⟩:=ih (j+1) (by omega) (by omega)
  apply Exists.intro
  apply Exists.intro
  refine⟨?_,?_⟩
  rotate_left 1
  ·intro r0 r m tp V used T hm
   have bd:=csum_bound (i:=i) hE.q0 (fun k hk=>hm.vr a k ha hk) (fun k hk=>hm.vr b k hb hk) hi
   obtain⟨b1,b2,b3⟩:=bd j (by omega)
   obtain⟨b4,b5,b6⟩:=bd (j+1) (by omega)
   have:=hjm j (by omega);have:=hjm (j+1) (by omega)
   refine W.term hE ha hb (.inr rfl) h14 T hm (by omega) (by omega) (csum (V a) (V b) E.n i (j+1)) (by simp [csum,cterm,show¬j<=i by omega];omega) (by omega) (by omega) (by omega) (by omega) fun r' h T'=>?_
   refine W.sub ((E.n+i - j:Nat):Int) 1 h T'.h14 T'.reg.o (by omega) (by omega) (by omega) (by omega) (by omega) (by omega) fun h=>?_
   rw [wrapU_id (by omega) (by omega)]
   refine W.less h fun h=>?_
   refine W.bnz_go (p+14) h (by simp [upd,T'.h11,T'.reg.n];omega) rfl ?_
   refine W.mono (ih r0 _ m tp V used ((T'.set14 (E.n+i - (j+1)) _ (by omega)).upd _ _ (by decide)) hm) ?_
   rintro _ _ s ⟨rfl,rfl,e3,e4,e5⟩
   exact⟨rfl,rfl,e3,e4,e5⟩
  ·omega
theorem conv_body (hE:E.Ok){a b:Nat}(ha:a<E.nv)(hb:b<E.nv)(hc:At c p (convB E p a b)){i:Nat}(hi:i<E.n):
  ∃ N L,N<=8 * E.n+20/\∀ r0 r m tp V used,RegOk E r0 r->r 21=overC E->r 9=i->MemOk E tp V used m->
   W c E.mem ⟨p,r,m⟩ (fun n' l s=>n'=N/\l=L/\s.pc=p+31/\RegOk E r0 s.r/\s.r 21=overC E/\s.r 9=i/\s.m=upd m (E.scratch+i) (csum (V a) (V b) E.n i E.n % E.q)):=by
 have n1:=hE.n1;have q0:=hE.q0;have q1:=hE.q1
 obtain⟨f1,f2,f3,f4,f5,f6,f7⟩:=most_facts hE
 obtain⟨N1,L1,hN1,one⟩:=conv_one hE ha hb hc hi i 0 (by omega)
 have h11:At c (p+11) _:=hc.right.right.right
 have h22:At c (p+22) _:=hc.right.right.right.right.right.right
 have hM:=hE.mem_le
 have last:∃ L,∀ r0 r m tp V used t,TermOk E r0 r i E.n t (csum (V a) (V b) E.n i E.n)->MemOk E tp V used m->W c E.mem ⟨p+22,r,m⟩ (fun n' l s=>n'=9/\l=L/\s.pc=p+31/\RegOk E r0 s.r/\s.r 21=overC E/\s.r 9=i/\s.m=upd m (E.scratch+i) (csum (V a) (V b) E.n i E.n % E.q)):=by
  apply Exists.intro
  intro r0 r m tp V used t T hm
  obtain⟨b1,b2,b3⟩:=csum_bound (i:=i) hE.q0 (fun k hk=>hm.vr a k ha hk) (fun k hk=>hm.vr b k hb hk) hi E.n (by omega)
  have hmo:(E.n:Int) * sqr E.q=mostC E:=rfl
  refine W.addW (A:=csum (V a) (V b) E.n i E.n) (B:=overC E) h22 T.h22 (by rw [wrapU_id (by omega) (by omega)];exact T.h21) ⟨by omega,by omega⟩ ⟨by omega,by omega⟩ ⟨by omega,by omega⟩ (by omega) (by omega) fun h=>?_
  rw [wrapU_id (by omega) (by omega)]
  refine W.reduce (v:=csum (V a) (V b) E.n i E.n+overC E) h (by simp [upd]) (by simp [upd,T.reg.q]) (by simp [upd,T.reg.m]) (by omega) (by omega) (by omega) (by omega) (by omega) (by decide) fun x y z h=>?_
  refine W.st (E.scratch+i) h (by simp [upd,T.h9];omega) (by unfold Env.mem;omega) hM fun h=>W.done ?_
  refine⟨rfl,rfl,rfl,?_,by simpa [upd] using T.h21,by simpa [upd] using T.h9,?_⟩
  ·exact (((((T.reg.upd _ _ (by decide)).upd _ _ (by decide)).upd _ _ (by decide)).upd _ _ (by decide)).upd _ _ (by decide))
  ·have e:(csum (V a) (V b) E.n i E.n+overC E) % E.q=csum (V a) (V b) E.n i E.n % E.q:=by rw [Int.add_emod,f6,Int.add_zero,Int.emod_emod]
   simp [upd,e]
 obtain⟨L3,last⟩:=last
 have mid:∃ N L,N<=3+8 * (E.n - 1 - i)/\∀ r0 r m tp V used t,TermOk E r0 r i (i+1) t (csum (V a) (V b) E.n i (i+1))->MemOk E tp V used m->W c E.mem ⟨p+11,r,m⟩ (fun n' l s=>n'=N/\l=L/\s.pc=p+22/\(∃ t,TermOk E r0 s.r i E.n t (csum (V a) (V b) E.n i E.n))/\s.m=m):=by
  by_cases hl:i+1=E.n
  ·apply Exists.intro
   apply Exists.intro
   refine⟨?_,?_⟩
   rotate_left 1
   ·intro r0 r m tp V used t T hm
    refine W.less h11 fun h=>?_
    refine W.bz_go (p+22) h (by simp [upd,T.h11,T.reg.n];omega) rfl (W.done ?_)
    rw [hl] at T
    exact⟨rfl,rfl,rfl,⟨_,T.upd _ _ (by decide)⟩,rfl⟩
   ·omega
  ·obtain⟨N,L,hN,two⟩:=conv_two hE ha hb hc hi (E.n - 2 - i) (i+1) (by omega) (by omega)
   apply Exists.intro
   apply Exists.intro
   refine⟨?_,?_⟩
   rotate_left 1
   ·intro r0 r m tp V used t T hm
    refine W.less h11 fun h=>?_
    refine W.bz_no h (by simp [upd,T.h11,T.reg.n];omega) fun h=>?_
    refine W.sub (E.n:Int) 1 h (by simpa [upd] using T.reg.n) (by simpa [upd] using T.reg.o) (by omega) (by omega) (by omega) (by omega) (by omega) (by omega) fun h=>?_
    rw [wrapU_id (by omega) (by omega)]
    refine W.mono (two r0 _ m tp V used ((T.upd 16 _ (by decide)).set14 (E.n+i - (i+1)) _ (by omega)) hm) ?_
    rintro _ _ s ⟨rfl,rfl,e3,e4,e5⟩
    exact⟨rfl,rfl,e3,e4,e5⟩
   ·omega
 obtain⟨N2,L2,hN2,mid⟩:=mid
 refine⟨3+N1+N2+9,⟨1,p⟩ :: ⟨1,(p+1:Nat)⟩ :: ⟨1,(p+2:Nat)⟩ :: (L1++(L2++L3)),by omega,fun r0 r m tp V used hr h21 h9 hm=>?_⟩
 refine W.const hc (by decide) (by decide) fun h=>?_
 refine W.const h (by decide) (by decide) fun h=>?_
 refine W.mov h fun h=>?_
 have T0:TermOk E r0 (upd (upd (upd r (22:Int).toNat 0) (11:Int).toNat 0) (14:Int).toNat (upd (upd r (22:Int).toNat 0) (11:Int).toNat 0 (9:Int).toNat)) i 0 (i - 0) (csum (V a) (V b) E.n i 0):=by
  refine⟨((hr.upd _ _ (by decide)).upd _ _ (by decide)).upd _ _ (by decide),by simpa [upd] using h9,by simp [upd],by simpa [upd] using h9,by simpa [upd] using h21,by simp [upd,csum,wrapU]⟩
 refine W.bind (one r0 _ m tp V used T0 hm) ?_
 rintro _ _ ⟨pc,r1,m1⟩ ⟨rfl,rfl,e3,⟨t,T1⟩,e5⟩
 dsimp only at e3 T1 e5
 subst e3 e5
 refine W.bind (mid r0 _ _ tp V used t T1 hm) ?_
 rintro _ _ ⟨pc,r2,m2⟩ ⟨rfl,rfl,e3,⟨t,T2⟩,e5⟩
 dsimp only at e3 T2 e5
 subst e3 e5
 refine W.mono (last r0 _ _ tp V used t T2 hm) ?_
 rintro _ _ s ⟨rfl,rfl,e⟩
 exact⟨by omega,by simp;omega,e⟩
end
theorem MemOk.congr {E:Env}{tp:List Int}{V V':Vs}{used:Nat}{m:Nat->Int}(h:MemOk E tp V used m)(he:∀ v k,v<E.nv->k<E.n->V' v k=V v k):MemOk E tp V' used m:=
 ⟨h.t1,h.t2,h.m0,h.m1,fun v k hv hk=>by rw [he v k hv hk];exact h.mv v k hv hk,h.mt,fun v k hv hk=>by rw [he v k hv hk];exact h.vr v k hv hk⟩
theorem setV_of_part {E:Env}(V:Vs)(d:Nat)(f:Nat->Int):∀ v k,v<E.nv->k<E.n->setV V d f v k=partV V d E.n f v k:=by
 intro v k _ hk;unfold setV partV
 by_cases h:v=d<;> simp [h,hk]
def vmax (n:Nat):Nat:=8 * n * n+28 * n+60
def VecOk (c:List CI)(E:Env)(p len d:Nat)(f:Vs->Nat->Int):Prop:=
 ∃ N L,N<=vmax E.n/\∀ r0 r m tp V used,RegOk E r0 r->MemOk E tp V used m->
  W c E.mem ⟨p,r,m⟩ (fun n' l s=>n'=N/\l=L/\s.pc=p+len/\RegOk E r0 s.r/\MemOk E tp (setV V d (f V)) used s.m)
section
variable {c:List CI} {E:Env} {p:Nat}
theorem nn_le {n B t:Nat}(h:B<=20)(ht:t<=4):t+(1+n * (B+3))<=vmax n:=by
 have:=Nat.mul_le_mul_left n (show B+3<=23 by omega)
 unfold vmax;omega
theorem VecOk.of_body (hE:E.Ok){body:List CI}{d B:Nat}{f:Vs->Nat->Int}(hd:d<E.nv)(hc:At c p (eachC E.n p body))(hb:Body c E (p+1) body d B X0 f)(hB:B<=20)
  (hf:∀ V g k,f (partV V d k g) k=f V k):VecOk c E p (body.length+4) d f:=by
 obtain⟨N,L,hN,h⟩:=Body.loop hE hd hc hb (fun _ _ _=>⟨trivial,trivial⟩) hf
 refine⟨N,L,by have:=nn_le (n:=E.n) (B:=B) (t:=0) hB (by omega);omega,fun r0 r m tp V used hr hm=>(h r0 r m tp V used hr trivial hm).mono ?_⟩
 rintro _ _ s ⟨e1,e2,e3,e4,_,e6⟩
 exact⟨e1,e2,by omega,e4,e6.congr (setV_of_part V d (f V))⟩
theorem zero_vec (hE:E.Ok){d:Nat}(hd:d<E.nv)(hc:At c p (eachC E.n p (zeroB E d))):VecOk c E p 5 d (fun _ _=>0):=
 VecOk.of_body hE hd hc (zero_body hE hd hc.tail.left) (by decide) (fun _ _ _=>rfl)
theorem copy_vec (hE:E.Ok){d a:Nat}(hd:d<E.nv)(ha:a<E.nv)(hc:At c p (eachC E.n p (copyB E d a))):VecOk c E p 6 d (fun V k=>V a k):=
 VecOk.of_body hE hd hc (copy_body hE hd ha hc.tail.left) (by decide) (fun V g k=>partV_src V d k a g)
theorem add_vec (hE:E.Ok){d a b:Nat}(hd:d<E.nv)(ha:a<E.nv)(hb:b<E.nv)(hc:At c p (eachC E.n p (addB E d a b))):VecOk c E p 11 d (fun V k=>(V a k+V b k) % E.q):=
 VecOk.of_body hE hd hc (add_body hE hd ha hb hc.tail.left) (by decide) (fun V g k=>by simp only [partV_src])
theorem sub_vec (hE:E.Ok){d a b:Nat}(hd:d<E.nv)(ha:a<E.nv)(hb:b<E.nv)(hc:At c p (eachC E.n p (subB E d a b))):VecOk c E p 12 d (fun V k=>(V a k+E.q - V b k) % E.q):=
 VecOk.of_body hE hd hc (sub_body hE hd ha hb hc.tail.left) (by decide) (fun V g k=>by simp only [partV_src])
theorem mul_vec (hE:E.Ok){d a b:Nat}(hd:d<E.nv)(ha:a<E.nv)(hb:b<E.nv)(hc:At c p (eachC E.n p (mulB E d a b))):VecOk c E p 15 d (fun V k=>V a k * V b k % E.q):=
 VecOk.of_body hE hd hc (mul_body hE hd ha hb hc.tail.left) (by decide) (fun V g k=>by simp only [partV_src])
theorem pick_vec (hE:E.Ok){d a b e:Nat}(hd:d<E.nv)(ha:a<E.nv)(hb:b<E.nv)(he:e<E.nv)(hc:At c p (eachC E.n p (pickB E d a b e))):
  VecOk c E p 10 d (fun V k=>if V a k % 2=1 then V b k else V e k):=
 VecOk.of_body hE hd hc (pick_body hE hd ha hb he hc.tail.left) (by decide) (fun V g k=>by simp only [partV_src])
theorem scale_vec (hE:E.Ok){d a:Nat}(hd:d<E.nv)(ha:a<E.nv){K:Int}(hK:0<=K/\K<E.q)(hc:At c p (ci 1 21 0 0 0 K :: eachC E.n (p+1) (scaleB E d a))):
  VecOk c E p 15 d (fun V k=>V a k * K % E.q):=by
 obtain⟨N,L,hN,h⟩:=Body.loop hE hd hc.tail (scale_body hE hd ha K hK hc.tail.tail.left) (fun r v hx=>⟨by simpa [upd] using hx,by simpa [upd] using hx⟩) (fun V g k=>by simp only [partV_src])
 have:=hE.q1
 refine⟨N+1,⟨1,p⟩ :: L,by have:=nn_le (n:=E.n) (B:=10) (t:=1) (by decide) (by omega);omega,fun r0 r m tp V used hr hm=>?_⟩
 refine W.const hc hK.1 (by omega) fun h1=>?_
 refine W.mono (h r0 _ m tp V used (hr.upd _ _ (by decide)) (by simp [upd]) hm) ?_
 rintro _ _ s ⟨rfl,rfl,e3,e4,_,e6⟩
 refine⟨rfl,rfl,?_,e4,e6.congr (setV_of_part V d _)⟩
 rw [e3];show p+1+4+10=_;omega
theorem round_vec (hE:E.Ok){d a K:Nat}(hd:d<E.nv)(ha:a<E.nv)(hK:1<=K/\K<=30)(hKq:(2:Int) ^ K<E.q)
  (hc:At c p (ci 1 21 0 0 0 (((E.q:Int) - 1) / 2) :: ci 1 23 0 0 0 (2 ^ K - 1) :: eachC E.n (p+2) (roundB E d a K))):
  VecOk c E p 17 d (fun V k=>(V a k * 2 ^ K+((E.q:Int) - 1) / 2) / E.q % 2 ^ K):=by
 obtain⟨p1,p2,p3,p4⟩:=pow_facts hK
 have hc2:At c (p+2) _:=hc.tail.tail
 obtain⟨N,L,hN,h⟩:=Body.loop hE hd hc2 (round_body hE hd ha hK hKq hc2.tail.left) (fun r v hx=>⟨⟨by simpa [upd] using hx.1,by simpa [upd] using hx.2⟩,⟨by simpa [upd] using hx.1,by simpa [upd] using hx.2⟩⟩) (fun V g k=>by simp only [partV_src])
 have:=hE.q1;have:=hE.q0
 refine⟨N+2,⟨1,p⟩ :: ⟨1,(p+1:Nat)⟩ :: L,by have:=nn_le (n:=E.n) (B:=11) (t:=2) (by decide) (by omega);omega,fun r0 r m tp V used hr hm=>?_⟩
 refine W.const hc (by omega) (by omega) fun h1=>?_
 refine W.const h1 (by omega) (by omega) fun h1=>?_
 refine W.mono (h r0 _ m tp V used ((hr.upd _ _ (by decide)).upd _ _ (by decide)) ⟨by simp [upd],by simp [upd]⟩ hm) ?_
 rintro _ _ s ⟨rfl,rfl,e3,e4,_,e6⟩
 refine⟨rfl,rfl,?_,e4,e6.congr (setV_of_part V d _)⟩
 rw [e3];show p+2+4+11=_;omega
theorem expand_vec (hE:E.Ok){d a K:Nat}(hd:d<E.nv)(ha:a<E.nv)(hK:1<=K/\K<=30)(hKq:(2:Int) ^ K<E.q)
  (hc:At c p (ci 1 21 0 0 0 (2 ^ (K - 1)) :: ci 1 23 0 0 0 (2 ^ K - 1) :: eachC E.n (p+2) (expandB E d a K))):
  VecOk c E p 12 d (fun V k=>((E.q:Int) * (V a k % 2 ^ K)+2 ^ (K - 1)) / 2 ^ K):=by
 obtain⟨p1,p2,p3,p4⟩:=pow_facts hK
 have hc2:At c (p+2) _:=hc.tail.tail
 obtain⟨N,L,hN,h⟩:=Body.loop hE hd hc2 (expand_body hE hd ha hK hKq hc2.tail.left) (fun r v hx=>⟨⟨by simpa [upd] using hx.1,by simpa [upd] using hx.2⟩,⟨by simpa [upd] using hx.1,by simpa [upd] using hx.2⟩⟩) (fun V g k=>by simp only [partV_src])
 have:=hE.q1;have:=hE.q0
 refine⟨N+2,⟨1,p⟩ :: ⟨1,(p+1:Nat)⟩ :: L,by have:=nn_le (n:=E.n) (B:=6) (t:=2) (by decide) (by omega);omega,fun r0 r m tp V used hr hm=>?_⟩
 refine W.const hc (by omega) (by omega) fun h1=>?_
 refine W.const h1 (by omega) (by omega) fun h1=>?_
 refine W.mono (h r0 _ m tp V used ((hr.upd _ _ (by decide)).upd _ _ (by decide)) ⟨by simp [upd],by simp [upd]⟩ hm) ?_
 rintro _ _ s ⟨rfl,rfl,e3,e4,_,e6⟩
 refine⟨rfl,rfl,?_,e4,e6.congr (setV_of_part V d _)⟩
 rw [e3];show p+2+4+6=_;omega
theorem norm_vec (hE:E.Ok){d a:Nat}(hd:d<E.nv)(ha:a<E.nv){K:Int}(hK:0<=K/\K<=E.q)
  (hc:At c p (ci 1 21 0 0 0 K :: ci 1 22 0 0 0 1 :: (eachC E.n (p+2) (normB E a)++(eachC E.n (p+12) (zeroB E d)++[ci 16 0 0 22 0 (E.place d:Nat)])))):
  VecOk c E p 18 d (fun V k=>if k=0 then nacc (near E K V a) E.n else 0):=by
 have hc2:At c (p+2) _:=hc.tail.tail
 have hc12:At c (p+12) _:=hc2.right
 have hc17:At c (p+17) _:=hc12.right
 obtain⟨N,L,hN,h⟩:=norm_loop hE ha K hc2.left
 obtain⟨N2,L2,hN2,h2⟩:=zero_loop hE hd hc12.left
 have:=hE.q1;have:=hE.q0;have n0:=hE.n0;have hM:=hE.mem_le
 have hp:=Env.place_lt hd (show 0<E.n by omega)
 refine⟨2+N+N2+1,⟨1,p⟩ :: ⟨1,(p+1:Nat)⟩ :: (L++(L2++[⟨1,(p+17:Nat)⟩,⟨3,(E.place d:Nat)⟩])),by unfold vmax;omega,fun r0 r m tp V used hr hm=>?_⟩
 refine W.const hc (by omega) (by omega) fun h1=>?_
 refine W.const h1 (by omega) (by omega) fun h1=>?_
 refine W.bind (h r0 _ m tp V used ((hr.upd _ _ (by decide)).upd _ _ (by decide)) (by simp [upd]) (by simp [upd]) hm) ?_
 rintro _ _ ⟨pc,r1,m1⟩ ⟨rfl,rfl,e3,e4,e5,e6⟩
 dsimp only at e3 e4 e5 e6
 subst e3 e6
 refine W.bind (h2 r0 _ _ tp V used _ e4 e5 hm) ?_
 rintro _ _ ⟨pc,r2,m2⟩ ⟨rfl,rfl,e3,e4,e5,e6⟩
 dsimp only at e3 e4 e5 e6
 subst e3
 refine W.st (E.place d) hc17 (by show r2 0+_=_;rw [e4.z];omega) (by unfold Env.mem Env.scratch;omega) hM fun _=>W.done ?_
 refine⟨by omega,?_,rfl,e4,?_⟩
 ·simp;omega
 ·have hx:0<=r2 22/\r2 22<E.q:=by rw [e5];rcases nacc_01 (near E K V a) E.n with h|h<;> rw [h]<;> omega
  refine (e6.store hd (show 0<E.n by omega) hx).congr ?_
  intro v k hv hk
  unfold setV updV partV
  rw [e5]
  by_cases h1:v=d
  ·subst h1
   by_cases h2:k=0
   ·simp [h2]
   ·simp [h2,hk]
  ·simp [h1]
theorem conv_vec (hE:E.Ok){d a b:Nat}(hd:d<E.nv)(ha:a<E.nv)(hb:b<E.nv)
  (hc:At c p (ci 1 21 0 0 0 (overC E) :: (eachC E.n (p+1) (convB E (p+2) a b)++eachC E.n (p+36) (conv2B E d)))):
  VecOk c E p 42 d (fun V k=>csum (V a) (V b) E.n k E.n % E.q):=by
 have q0:=hE.q0;have q1:=hE.q1;have n0:=hE.n0;have n1:=hE.n1;have hM:=hE.mem_le
 obtain⟨f1,f2,f3,f4,f5,f6,f7⟩:=most_facts hE
 have hc1:At c (p+1) _:=hc.tail.left
 have hc36:At c (p+36) _:=hc.tail.right
 obtain⟨N,L,hN,h⟩:=each_loop (c:=c) (M:=E.mem) (p:=p+1) (n:=E.n) (B:=8 * E.n+20) (body:=convB E (p+2) a b) (G:=(Nat->Int)×Vs×Nat×List Int)
  (I:=fun g k r m=>RegOk E g.1 r/\r 21=overC E/\MemOk E g.2.2.2 g.2.1 g.2.2.1 m/\∀ j,j<k->m (E.scratch+j)=csum (g.2.1 a) (g.2.1 b) E.n j E.n % E.q) hc1 n1 (by omega)
  (fun g k r m v ⟨a,b,e⟩=>⟨a.upd 9 v (by omega),by simpa [upd] using b,e⟩)
  (fun g k r m v ⟨a,b,e⟩=>⟨a.upd 16 v (by omega),by simpa [upd] using b,e⟩)
  (fun g k r m ⟨a,_⟩=>⟨a.o,a.n⟩) (by
   intro k hk
   obtain⟨N,L,hN,h⟩:=conv_body hE ha hb hc1.tail.left hk
   refine⟨N,L,hN,?_⟩
   rintro⟨r0,V,used,tp⟩ r m ⟨hr,h21,hm,hs⟩ h9
   refine W.mono (h r0 r m tp V used hr h21 h9 hm) ?_
   rintro _ _ s ⟨e1,e2,e3,e4,e5,e6,e7⟩
   refine⟨e1,e2,e3,⟨e4,e5,?_,?_⟩,e6⟩
   ·dsimp only at hm ⊢
    rw [e7]
    have hfs:E.fin+4096=E.scratch:=rfl
    have t1:=hm.t1
    have hf2:2<=E.fin:=by unfold Env.fin;omega
    refine⟨hm.t1,hm.t2,?_,?_,fun v j hv hj=>?_,fun j hj=>?_,hm.vr⟩
    ·rw [upd_ne _ _ _ _ (by omega)];exact hm.m0
    ·rw [upd_ne _ _ _ _ (by omega)];exact hm.m1
    ·have:=Env.place_lt hv hj
     rw [upd_ne _ _ _ _ (by omega)];exact hm.mv v j hv hj
    ·rw [upd_ne _ _ _ _ (by omega)];exact hm.mt j hj
   ·intro j hj
    dsimp only at hs ⊢
    rw [e7]
    by_cases hjk:j=k
    ·subst hjk;rw [upd_same]
    ·rw [upd_ne _ _ _ _ (by omega)];exact hs j (by omega))
 obtain⟨N2,L2,hN2,h2⟩:=each_loop (c:=c) (M:=E.mem) (p:=p+36) (n:=E.n) (B:=2) (body:=conv2B E d) (G:=(Nat->Int)×Vs×Nat×(Nat->Int)×List Int)
  (I:=fun g k r m=>RegOk E g.1 r/\MemOk E g.2.2.2.2 (partV g.2.1 d k g.2.2.2.1) g.2.2.1 m/\∀ j,j<E.n->m (E.scratch+j)=g.2.2.2.1 j/\0<=g.2.2.2.1 j/\g.2.2.2.1 j<E.q) hc36 n1 (by omega)
  (fun g k r m v ⟨a,e⟩=>⟨a.upd 9 v (by omega),e⟩)
  (fun g k r m v ⟨a,e⟩=>⟨a.upd 16 v (by omega),e⟩)
  (fun g k r m ⟨a,_⟩=>⟨a.o,a.n⟩) (by
   intro k hk
   apply Exists.intro
   apply Exists.intro
   refine⟨?_,?_⟩
   rotate_left 1
   ·rintro⟨r0,V,used,f,tp⟩ r m ⟨hr,hm,hs⟩ h9
    dsimp only at hr hm hs
    refine W.ld (E.scratch+k) hc36.tail.left (by show r 9+_=_;rw [h9];omega) (by unfold Env.mem;omega) hM fun h=>?_
    refine W.stv hE h (by simpa [upd] using h9) hd hk fun h=>W.done ?_
    refine⟨rfl,rfl,rfl,⟨hr.upd _ _ (by decide),?_,?_⟩,by simpa [upd] using h9⟩
    ·rw [<-partV_succ]
     simp only [show (15:Int).toNat=15 from rfl,upd_same,(hs k hk).1]
     exact hm.store hd hk (hs k hk).2
    ·intro j hj
     have hp:=Env.place_lt hd hk
     refine⟨?_,(hs j hj).2⟩
     show upd m (E.place d+k) _ (E.scratch+j)=f j
     rw [upd_ne _ _ _ _ (by unfold Env.scratch;omega)];exact (hs j hj).1
   ·exact Nat.le_refl _)
 refine⟨1+N+N2,⟨1,p⟩ :: (L++L2),?_,fun r0 r m tp V used hr hm=>?_⟩
 ·have e1:E.n * (8 * E.n+20+3)=8 * E.n * E.n+E.n * 23:=by rw [show 8 * E.n+20+3=8 * E.n+23 from rfl,Nat.mul_add,<-Nat.mul_assoc,Nat.mul_comm E.n 8]
  unfold vmax;omega
 refine W.const hc (by omega) (by omega) fun _=>?_
 refine W.bind (h (r0,V,used,tp) _ m ⟨hr.upd _ _ (by decide),by simp [upd],hm,fun j hj=>by omega⟩) ?_
 rintro _ _ ⟨pc,r1,m1⟩ ⟨rfl,rfl,e3,e4,e5,e6,e7⟩
 dsimp only at e3 e4 e5 e6 e7
 subst e3
 refine W.mono (h2 (r0,V,used,fun k=>csum (V a) (V b) E.n k E.n % E.q,tp) r1 m1 ⟨e4,by simpa [partV_zero] using e6,fun j hj=>⟨e7 j hj,mod_range _ hE.q0⟩⟩) ?_
 rintro _ _ s ⟨rfl,rfl,e3,e4,e6,_⟩
 refine⟨by omega,rfl,?_,e4,e6.congr (setV_of_part V d _)⟩
 rw [e3];show p+36+4+2=_;omega
end
structure Ev where
 kind:Int
 yes:Bool
 vec:List Int
deriving DecidableEq,Repr,Inhabited
structure RS where
 tape:List Int
 V:Vs
 used:Nat
 steps:Nat
 evs:List Ev
 over:Bool
 code:Int
def RS.fin (x:RS)(code:Int):RS:={ x with over:=true,code:=code}
def RS.stepThen (fuel:Nat)(x:RS)(f:RS->RS):RS:=if x.steps>=fuel then x.fin 4 else f { x with steps:=x.steps+1}
def drawGo (E:Env)(fuel d:Nat):List Int->Nat->(Nat->Int)->RS->RS
 |[],i,f,x=>if i<E.n then x.fin 1 else { x with V:=setV x.V d f}
 |t :: rest,i,f,x=>
  if i<E.n then
   x.stepThen fuel fun x=>
    let n:=t % 2 ^ E.bits
    let x:={ x with used:=x.used+1,evs:=x.evs++[⟨2,decide (n<E.q),[]⟩]}
    if n<E.q then drawGo E fuel d rest (i+1) (upd f i n) x else drawGo E fuel d rest i f x
  else { x with V:=setV x.V d f}
def drawB (E:Env)(p d T:Nat):List CI:=
 [ci 15 12 0 0 0 1,ci 15 13 0 0 0 0,ci 13 16 12 13 0 0,ci 18 0 16 0 0 (T:Nat),ci 15 15 12 0 0 (E.fin:Nat),(⟨3,12,12,1,0,0⟩,⟨1,4096⟩),ci 16 0 0 12 0 1,
  ci 7 15 15 23 0 0,ci 13 16 15 19 0 0,ci 18 0 16 0 0 (p:Nat),stC E 15 d]
def headL (p:Nat):List Leak:=[⟨1,p⟩,⟨3,(1:Nat)⟩,⟨1,(p+1:Nat)⟩,⟨3,(0:Nat)⟩,⟨1,(p+2:Nat)⟩,⟨1,(p+3:Nat)⟩]
def takeL (E:Env)(p u:Nat):List Leak:=headL p++[⟨2,0⟩,⟨1,(p+4:Nat)⟩,⟨3,(E.fin+u:Nat)⟩,⟨1,(p+5:Nat)⟩,⟨1,(p+6:Nat)⟩,⟨3,(1:Nat)⟩,⟨1,(p+7:Nat)⟩,⟨1,(p+8:Nat)⟩]
def keepL (E:Env)(p d i:Nat):List Leak:=[⟨1,(p+9:Nat)⟩,⟨2,0⟩,⟨1,(p+10:Nat)⟩,⟨3,(E.place d+i:Nat)⟩,⟨1,(p+11:Nat)⟩,⟨1,(p+12:Nat)⟩,⟨1,(p+13:Nat)⟩]
structure Cons where
 l:List Leak
 used:Nat
 rest:List Ev
 over:Bool
def drawC (E:Env)(p d:Nat):List Ev->Nat->Nat->Cons
 |[],_,u=>⟨headL p++[⟨2,1⟩],u,[],true⟩
 |e :: rest,i,u=>
  if e.yes then
   if i+1<E.n then
    let y:=drawC E p d rest (i+1) (u+1)
    { y with l:=takeL E p u++(keepL E p d i++(⟨2,1⟩ :: y.l))}
   else ⟨takeL E p u++(keepL E p d i++[⟨2,0⟩]),u+1,rest,false⟩
  else
   let y:=drawC E p d rest i (u+1)
   { y with l:=takeL E p u++(⟨1,(p+9:Nat)⟩ :: ⟨2,1⟩ :: y.l)}
section
variable {c:List CI} {E:Env} {p:Nat}
theorem drop_cons {tape:List Int}{u:Nat}{t:Int}{rest:List Int}(h:tape.drop u=t :: rest):u<tape.length/\tape.getD u 0=t/\tape.drop (u+1)=rest:=by
 have h1:u<tape.length:=by
  rcases Nat.lt_or_ge u tape.length with h2|h2
  ·exact h2
  ·rw [List.drop_eq_nil_of_le h2] at h;cases h
 rw [List.drop_eq_getElem_cons h1] at h
 injection h with h3 h4
 exact⟨h1,by rw [List.getD_eq_getElem?_getD,List.getElem?_eq_getElem h1,h3];rfl,h4⟩
def draw_post (c:List CI)(E:Env)(p d T:Nat)(x y:RS)(ev:List Ev)(i:Nat)(r0 r m:Nat->Int):Prop:=
 W c E.mem ⟨p,r,m⟩ (fun n l s=>n<=20 * (y.steps - x.steps)+5/\(∀ rest,(y.over=true->rest=[])->drawC E p d (ev++rest) i x.used=⟨l,y.used,rest,y.over⟩)/\
  (y.over=true->s.pc=T/\s.m 1=y.used)/\(y.over=false->s.pc=p+14/\RegOk E r0 s.r/\MemOk E y.tape y.V y.used s.m))
theorem drawGo_done {fuel d:Nat}(l:List Int){i:Nat}(h:¬i<E.n)(f:Nat->Int)(x:RS):drawGo E fuel d l i f x={ x with V:=setV x.V d f}:=by
 cases l<;> simp [drawGo,h]
theorem draw_sim (hE:E.Ok){d T fuel:Nat}(hd:d<E.nv)(hc:At c p (drawB E p d T++[upC E.n 9,ci 13 16 9 10 0 0,ci 19 0 16 0 0 (p:Nat)])):
  ∀ (rest:List Int) (i:Nat) (f:Nat->Int) (x:RS),i<E.n->x.tape.drop x.used=rest->x.over=false->(drawGo E fuel d rest i f x).code≠4->
   ∃ ev,(drawGo E fuel d rest i f x).evs=x.evs++ev/\x.steps<=(drawGo E fuel d rest i f x).steps/\((drawGo E fuel d rest i f x).over=true->(drawGo E fuel d rest i f x).code=1)/\
    ∀ r0 r m,RegOk E r0 r->r 23=2 ^ E.bits - 1->r 9=i->MemOk E x.tape (partV x.V d i f) x.used m->(∀ k,k<i->0<=f k/\f k<E.q)->
     draw_post c E p d T x (drawGo E fuel d rest i f x) ev i r0 r m:=by
 have q0:=hE.q0;have q1:=hE.q1;have n1:=hE.n1;have hM:=hE.mem_le
 have hf2:2<=E.fin:=by unfold Env.fin;omega
 have hfm:E.fin+4096<E.mem:=by unfold Env.mem Env.scratch;have:=hE.n0;omega
 intro rest
 induction rest with
 |nil=>
  intro i f x hi hx hov hcode
  have hu:x.tape.length<=x.used:=by
   rcases Nat.lt_or_ge x.used x.tape.length with h|h
   ·have:=congrArg List.length hx;simp at this;omega
   ·exact h
  simp only [drawGo,if_pos hi]
  refine⟨[],by simp [RS.fin],by simp [RS.fin],by simp [RS.fin],fun r0 r m hr h23 h9 hm hf=>?_⟩
  unfold draw_post
  refine W.ld 1 hc (by show r 0+1=_;rw [hr.z];rfl) (by omega) hM fun h=>?_
  refine W.ld 0 h (by simp [upd,hr.z]) (by omega) hM fun h=>?_
  refine W.less h fun h=>?_
  refine W.bz_go T h (by simp [upd,hm.m0,hm.m1];omega) rfl (W.done ?_)
  refine⟨by simp [RS.fin],fun rest hrest=>?_,fun _=>⟨rfl,by simp [RS.fin,hm.m1]⟩,fun h=>by simp [RS.fin] at h⟩
  obtain rfl:=hrest rfl
  simp [drawC,headL,RS.fin]
  omega
 |cons t rest ih=>
  intro i f x hi hx hov hcode
  obtain⟨hu,ht,hx2⟩:=drop_cons hx
  have b1:=hE.b1;have b2:=hE.b2
  have p24:(2:Int) ^ E.bits<=16777216:=by
   have h1:(2:Nat) ^ E.bits<=2 ^ 24:=Nat.pow_le_pow_right (by decide) b1
   have h3:(2:Nat) ^ 24=16777216:=by decide
   have c1:((2:Int) ^ E.bits)=((2 ^ E.bits:Nat):Int):=by simp
   omega
  have w0:0<=t % 2 ^ E.bits:=Int.emod_nonneg _ (by omega)
  simp only [drawGo,if_pos hi,RS.stepThen] at hcode ⊢
  by_cases hst:x.steps>=fuel
  ·rw [if_pos hst] at hcode;simp [RS.fin] at hcode
  ·rw [if_neg hst] at hcode ⊢
   have head:∀ (Q:Nat->List Leak->Cfg->Prop) (r0 r m:Nat->Int),RegOk E r0 r->r 23=2 ^ E.bits - 1->r 9=i->MemOk E x.tape (partV x.V d i f) x.used m->
     (∀ r',At c (p+9) ([ci 18 0 16 0 0 (p:Nat),stC E 15 d]++[upC E.n 9,ci 13 16 9 10 0 0,ci 19 0 16 0 0 (p:Nat)])->RegOk E r0 r'->r' 23=2 ^ E.bits - 1->r' 9=i->r' 15=t % 2 ^ E.bits->r' 16=(if t % 2 ^ E.bits<E.q then 1 else 0)->
      W c E.mem ⟨p+9,r',upd m 1 ((x.used+1:Nat):Int)⟩ (fun n l s=>Q (n+9) (takeL E p x.used++l) s))->W c E.mem ⟨p,r,m⟩ Q:=by
    intro Q r0 r m hr h23 h9 hm K
    have t1:=hm.t1
    have tr:=hm.t2 t (by have:=List.drop_subset x.used x.tape;exact this (by rw [hx];exact List.mem_cons_self))
    have e1:m (E.fin+x.used)=t:=by rw [hm.mt _ hu,ht]
    have e2:wand t (2 ^ E.bits - 1)=t % 2 ^ E.bits:=wand_mask _ _ tr.1
    refine W.ld 1 hc (by show r 0+1=_;rw [hr.z];rfl) (by omega) hM fun h=>?_
    refine W.ld 0 h (by simp [upd,hr.z]) (by omega) hM fun h=>?_
    refine W.less h fun h=>?_
    refine W.bz_no h (by simp [upd,hm.m0,hm.m1];omega) fun h=>?_
    refine W.ld (E.fin+x.used) h (by simp [upd,hm.m1];omega) (by omega) hM fun h=>?_
    refine W.add (x.used:Int) 1 h (by simp [upd,hm.m1]) (by simp [upd,hr.o]) (by omega) (by omega) (by omega) (by omega) (by omega) (by omega) fun h=>?_
    refine W.st 1 h (by simp [upd,hr.z]) (by omega) hM fun h=>?_
    refine W.and h fun h=>?_
    refine W.less h fun h=>?_
    refine W.mono (K _ h ?_ (by simpa [upd] using h23) (by simpa [upd] using h9) (by simp [upd,e1,h23,e2]) (by simp [upd,e1,h23,e2,hr.q])) ?_
    ·exact (((((((hr.upd _ _ (by decide)).upd _ _ (by decide)).upd _ _ (by decide)).upd _ _ (by decide)).upd _ _ (by decide)).upd _ _ (by decide)).upd _ _ (by decide))
    ·intro n l s hq
     exact hq
   have hm1:∀ m V,MemOk E x.tape V x.used m->MemOk E x.tape V (x.used+1) (upd m 1 ((x.used+1:Nat):Int)):=by
    intro m V hm
    refine⟨hm.t1,hm.t2,?_,?_,fun v k hv hk=>?_,fun j hj=>?_,hm.vr⟩
    ·rw [upd_ne _ _ _ _ (by omega)];exact hm.m0
    ·rw [upd_same]
    ·rw [upd_ne _ _ _ _ (by unfold Env.place;omega)];exact hm.mv v k hv hk
    ·rw [upd_ne _ _ _ _ (by omega)];exact hm.mt j hj
   generalize hn:t % 2 ^ E.bits=n at *
   by_cases hnq:n<E.q
   ·rw [if_pos hnq] at hcode ⊢
    simp only [hnq,decide_true] at hcode ⊢
    by_cases hlast:i+1<E.n
    ·obtain⟨ev,e1,e2,e3,e4⟩:=ih (i+1) (upd f i n) ⟨x.tape,x.V,x.used+1,x.steps+1,x.evs++[⟨2,true,[]⟩],x.over,x.code⟩ hlast hx2 hov hcode
     refine⟨⟨2,true,[]⟩ :: ev,by rw [e1];simp,by simp only at e2;omega,e3,fun r0 r m hr h23 h9 hm hf=>?_⟩
     refine head _ r0 r m hr h23 h9 hm fun r' h hr' g23 g9 g15 g16=>?_
     refine W.bz_no h (by simp [g16,hnq]) fun h=>?_
     refine W.stv hE h g9 hd hi fun h=>?_
     refine W.add (i:Int) 1 h g9 hr'.o (by omega) (by omega) (by omega) (by omega) (by omega) (by omega) fun h=>?_
     refine W.less h fun h=>?_
     refine W.bnz_go p h (by simp [upd,hr'.n];omega) rfl ?_
     have hm2:MemOk E x.tape (partV x.V d (i+1) (upd f i n)) (x.used+1) (upd (upd m 1 ((x.used+1:Nat):Int)) (E.place d+i) (r' (15:Int).toNat)):=by
      show MemOk E _ _ _ (upd _ _ (r' 15))
      rw [g15]
      refine ((hm1 m _ hm).store hd hi (show 0<=n/\n<E.q from⟨w0,hnq⟩)).congr ?_
      intro v k _ _
      unfold partV updV upd
      by_cases h1:v=d
      ·subst h1
       by_cases h2:k=i
       ·subst h2;simp
       ·simp [h2]
        by_cases h3:k<i
        ·rw [if_pos (by omega),if_pos h3]
        ·rw [if_neg (by omega),if_neg h3]
      ·simp [h1]
     refine W.mono (e4 r0 _ _ ((hr'.upd _ _ (by decide)).upd _ _ (by decide)) (by simpa [upd] using g23) (by simp [upd]) hm2 ?_) ?_
     ·intro k hk
      unfold upd
      by_cases h2:k=i
      ·rw [if_pos h2];exact⟨w0,hnq⟩
      ·rw [if_neg h2];exact hf k (by omega)
     ·rintro n' l s ⟨q1,q2,q3,q4⟩
      refine⟨?_,fun rest hr=>?_,q3,q4⟩
      ·simp only at q1 e2 ⊢;omega
      ·have:=q2 rest hr
       simp only at this
       simp only [List.cons_append,drawC,if_true,if_pos hlast,this]
       simp [keepL];omega
    ·rw [drawGo_done _ hlast] at hcode ⊢
     refine⟨[⟨2,true,[]⟩],rfl,by simp,by simp [hov],fun r0 r m hr h23 h9 hm hf=>?_⟩
     refine head _ r0 r m hr h23 h9 hm fun r' h hr' g23 g9 g15 g16=>?_
     refine W.bz_no h (by simp [g16,hnq]) fun h=>?_
     refine W.stv hE h g9 hd hi fun h=>?_
     refine W.add (i:Int) 1 h g9 hr'.o (by omega) (by omega) (by omega) (by omega) (by omega) (by omega) fun h=>?_
     refine W.less h fun h=>?_
     refine W.bnz_no h (by simp [upd,hr'.n];omega) fun h=>W.done ?_
     refine⟨by simp,fun rest hr=>?_,by simp [hov],fun _=>⟨rfl,(hr'.upd _ _ (by decide)).upd _ _ (by decide),?_⟩⟩
     ·simp [drawC,if_neg hlast,hov,keepL];omega
     ·show MemOk E _ _ _ (upd _ _ (r' 15))
      rw [g15]
      refine ((hm1 m _ hm).store hd hi (show 0<=n/\n<E.q from⟨w0,hnq⟩)).congr ?_
      intro v k _ hk
      unfold partV updV upd setV
      by_cases h1:v=d
      ·subst h1
       by_cases h2:k=i
       ·subst h2;simp
       ·simp [h2]
        intro h;omega
      ·simp [h1]
   ·rw [if_neg hnq] at hcode ⊢
    simp only [hnq,decide_false] at hcode ⊢
    obtain⟨ev,e1,e2,e3,e4⟩:=ih i f ⟨x.tape,x.V,x.used+1,x.steps+1,x.evs++[⟨2,false,[]⟩],x.over,x.code⟩ hi hx2 hov hcode
    refine⟨⟨2,false,[]⟩ :: ev,by rw [e1];simp,by simp only at e2;omega,e3,fun r0 r m hr h23 h9 hm hf=>?_⟩
    refine head _ r0 r m hr h23 h9 hm fun r' h hr' g23 g9 g15 g16=>?_
    refine W.bz_go p h (by simp [g16,hnq]) rfl ?_
    refine W.mono (e4 r0 _ _ hr' g23 g9 (hm1 m _ hm) hf) ?_
    rintro n' l s ⟨q1,q2,q3,q4⟩
    refine⟨?_,fun rest hr=>?_,q3,q4⟩
    ·simp only at q1 e2 ⊢;omega
    ·have:=q2 rest hr
     simp only at this
     simp [drawC,this]
end
structure Stmt where
 op:Int
 d:Int
 a:Int
 b:Int
 c:Int
 k:Int
 body:List Stmt
 els:List Stmt
def timesN (f:RS->RS):Nat->RS->RS
 |0,x=>x
 |k+1,x=>if x.over then x else timesN f k (f x)
def untilN (fuel:Nat)(a:Nat)(f:RS->RS):Nat->RS->RS
 |0,x=>x.fin 2
 |k+1,x=>x.stepThen fuel fun x=>
  let x:=f x
  if x.over then x else
  let yes:=decide (x.V a 0≠0)
  let x:={ x with evs:=x.evs++[⟨3,yes,[]⟩]}
  if yes then x else untilN fuel a f k x
def stepF (E:Env)(s:Stmt)(V:Vs):Nat->Int:=
 let a:=s.a.toNat;let b:=s.b.toNat;let c:=s.c.toNat;let K:=s.k.toNat
 if s.op=2\/s.op=12 then fun k=>V a k else
 if s.op=3 then fun k=>(V a k+V b k) % E.q else
 if s.op=4 then fun k=>(V a k+E.q - V b k) % E.q else
 if s.op=5 then fun k=>V a k * V b k % E.q else
 if s.op=6 then fun k=>V a k * s.k % E.q else
 if s.op=7 then fun k=>csum (V a) (V b) E.n k E.n % E.q else
 if s.op=8 then fun k=>(V a k * 2 ^ K+((E.q:Int) - 1) / 2) / E.q % 2 ^ K else
 if s.op=9 then fun k=>((E.q:Int) * (V a k % 2 ^ K)+2 ^ (K - 1)) / 2 ^ K else
 if s.op=10 then fun k=>if V a k % 2=1 then V b k else V c k else
 if s.op=11 then fun k=>if k=0 then nacc (near E s.k V a) E.n else 0 else
 fun _=>0
def vecOf (E:Env)(f:Nat->Int):List Int:=(List.range E.n).map f
mutual
def exS (E:Env)(fuel:Nat):Stmt->RS->RS
 |⟨op,d,a,b,c,k,body,els⟩,x=>
  if op=16 then untilN fuel a.toNat (exL E fuel body) k.toNat x else
  x.stepThen fuel fun x=>
   if op=13 then drawGo E fuel d.toNat (x.tape.drop x.used) 0 (fun _=>0) x else
   if op=14 then
    let yes:=decide (x.V a.toNat 0≠0)
    let x:={ x with evs:=x.evs++[⟨3,yes,[]⟩]}
    if yes then exL E fuel body x else exL E fuel els x
   else if op=15 then timesN (exL E fuel body) k.toNat x else
   let f:=stepF E ⟨op,d,a,b,c,k,[],[]⟩ x.V
   let x:={ x with V:=setV x.V d.toNat f}
   if op=12 then { x with evs:=x.evs++[⟨1,false,vecOf E f⟩]} else x
def exL (E:Env)(fuel:Nat):List Stmt->RS->RS
 |[],x=>x
 |s :: l,x=>if x.over then x else exL E fuel l (exS E fuel s x)
end
end Go.Proofs.YtkplfaionpplaaaGreatDoor.Al
