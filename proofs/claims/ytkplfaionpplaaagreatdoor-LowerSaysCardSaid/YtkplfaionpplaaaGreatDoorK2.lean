/- Part 2: P7, P8, P9, P10, P11, P12, P13, P14, P15, P16, P17, P18, P19, P20. -/
import Derived.Test.YtkplfaionpplaaaGreatDoorK1
set_option linter.unusedVariables false
set_option linter.unusedSimpArgs false
namespace Go.Proofs.YtkplfaionpplaaaGreatDoor.Al
def cterm (a b:Nat->Int)(n i j:Nat):Int:=if j<=i then a j * b (i - j) else -(a j * b (n+i - j))
def csum (a b:Nat->Int)(n i:Nat):Nat->Int
 |0=>0
 |j+1=>csum a b n i j+cterm a b n i j
theorem csum_bound {a b:Nat->Int}{n i:Nat}{q:Nat}(hq:17<=q)(ha:∀ k,k<n->0<=a k/\a k<q)(hb:∀ k,k<n->0<=b k/\b k<q)(hi:i<n):
  ∀ j,j<=n-> -(j * sqr q)<=csum a b n i j/\csum a b n i j<=j * sqr q/\(j<=i+1->0<=csum a b n i j):=by
 intro j
 induction j with
 |zero=>intro _;simp [csum]
 |succ j ih=>
  intro hj
  obtain⟨h1,h2,h3⟩:=ih (by omega)
  have e:((j+1:Nat):Int) * sqr q=(j:Int) * sqr q+sqr q:=by rw [Int.natCast_add,Int.add_mul];simp
  unfold csum cterm
  split
  ·have:=mul_range hq (ha j (by omega)) (hb (i - j) (by omega))
   refine⟨by omega,by omega,fun _=>?_⟩
   have:=h3 (by omega)
   omega
  ·have:=mul_range hq (ha j (by omega)) (hb (n+i - j) (by omega))
   exact⟨by omega,by omega,fun _=>by omega⟩
def mostC (E:Env):Int:=(E.n:Int) * sqr E.q
def overC (E:Env):Int:=(mostC E+E.q - 1) / E.q * E.q
def termC (E:Env)(a b:Nat)(op low:Int):List CI:=
 [ci 15 12 11 0 0 (E.place a:Nat),ci 15 13 14 0 0 (E.place b:Nat),(⟨5,12,12,13,0,0⟩,⟨0,sqr E.q⟩),(⟨op,22,22,12,0,0⟩,⟨low,mostC E⟩),upC E.n 11]
def convB (E:Env)(p:Nat)(a b:Nat):List CI:=
 [ci 1 22 0 0 0 0,ci 1 11 0 0 0 0,ci 2 14 9 0 0 0]++(termC E a b 3 0++([ci 18 0 14 0 0 ((p+11:Nat):Int),downC E.n 14,ci 17 0 0 0 0 ((p+3:Nat):Int)]++
  ([ci 13 16 11 10 0 0,ci 18 0 16 0 0 ((p+22:Nat):Int),(⟨4,14,10,1,0,0⟩,⟨0,E.n⟩)]++(termC E a b 4 (-mostC E)++([downC E.n 14,ci 13 16 11 10 0 0,ci 19 0 16 0 0 ((p+14:Nat):Int)]++
  ((⟨3,15,22,21,0,0⟩,⟨0,overC E+mostC E⟩) :: (reduceC E.q (overC E+mostC E) 15++[ci 16 0 9 15 0 (E.scratch:Nat)])))))))
def conv2B (E:Env)(d:Nat):List CI:=[ci 15 15 9 0 0 (E.scratch:Nat),stC E 15 d]
theorem most_facts {E:Env}(hE:E.Ok):0<=sqr E.q/\0<=mostC E/\mostC E<=18014398509481984/\mostC E<=overC E/\overC E<=mostC E+E.q/\overC E % E.q=0/\sqr E.q<=mostC E:=by
 have q0:=hE.q0
 obtain⟨s1,s0⟩:=sqr_lt hE.q1 hE.q0
 have n0:=hE.n0;have n1:=hE.n1
 have m0:0<=mostC E:=Int.mul_nonneg (by omega) s0
 have m1:mostC E<=256 * 70368744177664:=Int.mul_le_mul (by omega) s1 s0 (by omega)
 have m2:sqr E.q<=mostC E:=by have:=Int.mul_le_mul_of_nonneg_right (show (1:Int)<=E.n by omega) s0;unfold mostC;omega
 have o1:overC E<=mostC E+E.q - 1:=Int.ediv_mul_le _ (by omega)
 have o2:mostC E+E.q - 1<overC E+E.q:=by
  have:=Int.lt_ediv_add_one_mul_self (mostC E+E.q - 1) (show (0:Int)<E.q by omega)
  unfold overC;rw [Int.add_mul] at this;omega
 refine⟨s0,m0,by omega,by omega,by omega,?_,m2⟩
 unfold overC;exact Int.mul_emod_left _ _
section
variable {c:List CI} {E:Env} {p:Nat} {r0 r m:Nat->Int} {tp:List Int} {V:Vs} {used:Nat} {l:List CI} {Q:Nat->List Leak->Cfg->Prop}
theorem W.ldx (hE:E.Ok){x y:Int}{v k:Nat}(h:At c p (ci 15 x y 0 0 (E.place v:Nat) :: l))(hm:MemOk E tp V used m)(h9:r y.toNat=k)(hv:v<E.nv)(hk:k<E.n)
  (K:At c (p+1) l->W c E.mem ⟨p+1,upd r x.toNat (V v k),m⟩ (fun n l2 s2=>Q (n+1) (⟨1,p⟩ :: ⟨3,(E.place v+k:Nat)⟩ :: l2) s2)):W c E.mem ⟨p,r,m⟩ Q:=by
 have hp:=Env.place_lt hv hk
 have hM:=hE.mem_le
 refine W.ld (E.place v+k) h ?_ ?_ hM fun h=>?_
 ·rw [h9];omega
 ·unfold Env.mem Env.scratch;omega
 ·rw [hm.mv v k hv hk];exact K h
structure TermOk (E:Env)(r0 r:Nat->Int)(i j t:Nat)(S:Int):Prop where
 reg:RegOk E r0 r
 h9:r 9=i
 h11:r 11=j
 h14:r 14=t
 h21:r 21=overC E
 h22:r 22=wrapU S
theorem W.term {op low S:Int}{a b i j t:Nat}(hE:E.Ok)(ha:a<E.nv)(hb:b<E.nv)(hop:op=3\/op=4)(h:At c p (termC E a b op low++l))(T:TermOk E r0 r i j t S)(hm:MemOk E tp V used m)(hj:j<E.n)(ht:t<E.n)
  (S':Int) (hS':S'=if op=3 then S+V a j * V b t else S - V a j * V b t) (hlow:low<=S') (hhigh:S'<=mostC E) (_hS: -mostC E<=S/\S<=mostC E) (hl: -mostC E<=low)
  (K:∀ r',At c (p+5) l->TermOk E r0 r' i (j+1) t S'->W c E.mem ⟨p+5,r',m⟩ (fun n l2 s2=>Q (n+5) (⟨1,p⟩ :: ⟨3,(E.place a+j:Nat)⟩ :: ⟨1,(p+1:Nat)⟩ :: ⟨3,(E.place b+t:Nat)⟩ :: ⟨1,(p+2:Nat)⟩ :: ⟨1,(p+3:Nat)⟩ :: ⟨1,(p+4:Nat)⟩ :: l2) s2)):W c E.mem ⟨p,r,m⟩ Q:=by
 obtain⟨f1,f2,f3,f4,f5,f6,f7⟩:=most_facts hE
 have q0:=hE.q0;have q1:=hE.q1;have n1:=hE.n1
 obtain⟨hr,h9,h11,h14,h21,h22⟩:=T
 have ra:=hm.vr a j ha hj;have rb:=hm.vr b t hb ht;have rab:=mul_range hE.q0 ra rb
 refine W.ldx hE h hm h11 ha hj fun h=>?_
 refine W.ldx hE h hm (by simp [upd];exact h14) hb ht fun h=>?_
 refine W.mul (V a j) (V b t) h (by simp [upd]) (by simp [upd]) ra.1 (by omega) rb.1 (by omega) rab.1 rab.1 rab.2 (by omega) fun h=>?_
 have fin:∀ Z,Z=S'->TermOk E r0 (upd (upd (upd (upd (upd r 12 (V a j)) 13 (V b t)) 12 (V a j * V b t)) 22 (wrapU Z)) 11 ((j:Int)+1)) i (j+1) t S':=by
  rintro Z rfl
  refine⟨?_,by simpa [upd] using h9,by simp [upd],by simpa [upd] using h14,by simpa [upd] using h21,by simp [upd]⟩
  exact (((((hr.upd _ _ (by decide)).upd _ _ (by decide)).upd _ _ (by decide)).upd _ _ (by decide)).upd _ _ (by decide))
 rcases hop with rfl|rfl
 ·rw [if_pos rfl] at hS'
  refine W.addW (A:=S) (B:=V a j * V b t) h (by simpa [upd] using h22) (by simp [upd];exact (wrapU_id rab.1 (by omega)).symm) ⟨by omega,by omega⟩ ⟨by omega,by omega⟩ ⟨by omega,by omega⟩ (by omega) (by omega) fun h=>?_
  refine W.add (j:Int) 1 h (by simpa [upd] using h11) (by simpa [upd] using hr.o) (by omega) (by omega) (by omega) (by omega) (by omega) (by omega) fun h=>?_
  exact K _ h (fin _ hS'.symm)
 ·rw [if_neg (by decide)] at hS'
  refine W.subW (A:=S) (B:=V a j * V b t) h (by simpa [upd] using h22) (by simp [upd];exact (wrapU_id rab.1 (by omega)).symm) ⟨by omega,by omega⟩ ⟨by omega,by omega⟩ ⟨by omega,by omega⟩ (by omega) (by omega) fun h=>?_
  refine W.add (j:Int) 1 h (by simpa [upd] using h11) (by simpa [upd] using hr.o) (by omega) (by omega) (by omega) (by omega) (by omega) (by omega) fun h=>?_
  exact K _ h (fin _ hS'.symm)
theorem TermOk.upd {i j t:Nat}{S:Int}(T:TermOk E r0 r i j t S)(x:Nat)(v:Int)(hx:x=16\/x=15\/x=17\/x=18):TermOk E r0 (upd r x v) i j t S:=by
 obtain⟨hr,h9,h11,h14,h21,h22⟩:=T
 refine⟨hr.upd _ _ (by omega),?_,?_,?_,?_,?_⟩
 all_goals rw [upd_ne _ _ _ _ (by omega)]
 all_goals assumption
theorem TermOk.set14 {i j t:Nat}{S:Int}(T:TermOk E r0 r i j t S)(u:Nat)(x:Int)(h:x=u):TermOk E r0 (Al.upd r 14 x) i j u S:=by
 obtain⟨hr,h9,h11,h14,h21,h22⟩:=T
 refine⟨hr.upd _ _ (by omega),?_,?_,by rw [h];simp [Al.upd],?_,?_⟩
 all_goals rw [upd_ne _ _ _ _ (by omega)]
 all_goals assumption
end
section
variable {c:List CI} {E:Env} {p:Nat}
theorem conv_one (hE:E.Ok){a b:Nat}(ha:a<E.nv)(hb:b<E.nv)(hc:At c p (convB E p a b)){i:Nat}(hi:i<E.n):
  ∀ d j,j+d=i->∃ N L,N<=8 * (d+1)/\∀ r0 r m tp V used,TermOk E r0 r i j (i - j) (csum (V a) (V b) E.n i j)->MemOk E tp V used m->
   W c E.mem ⟨p+3,r,m⟩ (fun n' l s=>n'=N/\l=L/\s.pc=p+11/\(∃ t,TermOk E r0 s.r i (i+1) t (csum (V a) (V b) E.n i (i+1)))/\s.m=m):=by
 have n1:=hE.n1
 have h3:At c (p+3) _:=hc.right
 obtain⟨f1,f2,f3,f4,f5,f6,f7⟩:=most_facts hE
 have hjm:∀ j:Nat,j<=E.n->(j:Int) * sqr E.q<=mostC E:=fun j hj=>Int.mul_le_mul_of_nonneg_right (by omega) f1
 intro d
 induction d with
 |zero=>
  intro j hj
  obtain rfl:j=i:=by omega
  apply Exists.intro
  apply Exists.intro
  refine⟨?_,?_⟩
  rotate_left 1
  ·intro r0 r m tp V used T hm
   have bd:=csum_bound (i:=j) hE.q0 (fun k hk=>hm.vr a k ha hk) (fun k hk=>hm.vr b k hb hk) hi
   obtain⟨b1,b2,b3⟩:=bd j (by omega)
   obtain⟨b4,b5,b6⟩:=bd (j+1) (by omega)
   have:=hjm j (by omega);have:=hjm (j+1) (by omega)
   refine W.term hE ha hb (.inl rfl) h3 T hm hi (by omega) (csum (V a) (V b) E.n j (j+1)) (by simp [csum,cterm]) (b6 (by omega)) (by omega) (by omega) (by omega) fun r' h T'=>?_
   refine W.bz_go (p+11) h (by simp [T'.h14]) rfl (W.done ?_)
   exact⟨rfl,rfl,rfl,⟨_,T'⟩,rfl⟩
  ·omega
 |succ d ih=>
  intro j hj
  obtain⟨N,L,hN,ih⟩:=ih (j+1) (by omega)
  apply Exists.intro
  apply Exists.intro
  refine⟨?_,?_⟩
  rotate_left 1
  ·intro r0 r m tp V used T hm
   have bd:=csum_bound (i:=i) hE.q0 (fun k hk=>hm.vr a k ha hk) (fun k hk=>hm.vr b k hb hk) hi
   obtain⟨b1,b2,b3⟩:=bd j (by omega)
   obtain⟨b4,b5,b6⟩:=bd (j+1) (by omega)
   have:=hjm j (by omega);have:=hjm (j+1) (by omega)
   refine W.term hE ha hb (.inl rfl) h3 T hm (by omega) (by omega) (csum (V a) (V b) E.n i (j+1)) (by simp [csum,cterm];omega) (b6 (by omega)) (by omega) (by omega) (by omega) fun r' h T'=>?_
   refine W.bz_no h (by have:=T'.h14;simp [this];omega) fun h=>?_
   refine W.sub ((i - j:Nat):Int) 1 h T'.h14 T'.reg.o (by omega) (by omega) (by omega) (by omega) (by omega) (by omega) fun h=>?_
   rw [wrapU_id (by omega) (by omega)]
   refine W.br (p+3) h rfl ?_
   refine W.mono (ih r0 _ m tp V used (T'.set14 (i - (j+1)) _ (by omega)) hm) ?_
   rintro _ _ s ⟨rfl,rfl,e3,e4,e5⟩
   exact⟨rfl,rfl,e3,e4,e5⟩
  ·omega
theorem conv_two (hE:E.Ok){a b:Nat}(ha:a<E.nv)(hb:b<E.nv)(hc:At c p (convB E p a b)){i:Nat}(hi:i<E.n):
  ∀ d j,i<j->j+d+1=E.n->∃ N L,N<=8 * (d+1)/\∀ r0 r m tp V used,TermOk E r0 r i j (E.n+i - j) (csum (V a) (V b) E.n i j)->MemOk E tp V used m->
   W c E.mem ⟨p+14,r,m⟩ (fun n' l s=>n'=N/\l=L/\s.pc=p+22/\(∃ t,TermOk E r0 s.r i E.n t (csum (V a) (V b) E.n i E.n))/\s.m=m):=by
 have n1:=hE.n1
 have h14:At c (p+14) _:=hc.right.right.right.right
 obtain⟨f1,f2,f3,f4,f5,f6,f7⟩:=most_facts hE
 have hjm:∀ j:Nat,j<=E.n->(j:Int) * sqr E.q<=mostC E:=fun j hj=>Int.mul_le_mul_of_nonneg_right (by omega) f1
 intro d
 induction d with
 |zero=>
  intro j hij hj
  apply Exists.intro
  apply Exists.intro
  refine⟨?_,?_⟩
  rotate_left 1
  ·intro r0 r m tp V used T hm
   have bd:=csum_bound (i:=i) hE.q0 (fun k hk=>hm.vr a k ha hk) (fun k hk=>hm.vr b k hb hk) hi
   obtain⟨b1,b2,b3⟩:=bd j (by omega)
   obtain⟨b4,b5,b6⟩:=bd (j+1) (by omega)
   have:=hjm j (by omega);have:=hjm (j+1) (by omega)
   refine W.term hE ha hb (.inr rfl) h14 T hm (by omega) (by omega) (csum (V a) (V b) E.n i (j+1)) (by simp [csum,cterm,show¬j<=i by omega];omega) (by omega) (by omega) (by omega) (by omega) fun r' h T'=>?_
   refine W.sub ((E.n+i - j:Nat):Int) 1 h T'.h14 T'.reg.o (by omega) (by omega) (by omega) (by omega) (by omega) (by omega) fun h=>?_
   rw [wrapU_id (by omega) (by omega)]
   refine W.less h fun h=>?_
   refine W.bnz_no h (by simp [upd,T'.h11,T'.reg.n];omega) fun h=>W.done ?_
   have hjn:j+1=E.n:=by omega
   rw [hjn] at T'
   refine⟨rfl,rfl,rfl,⟨_,(T'.set14 (E.n+i - j - 1) _ (by omega)).upd _ _ (by decide)⟩,rfl⟩
  ·omega
 |succ d ih=>
  intro j hij hj
  obtain⟨N,L,hN,ih⟩:=ih (j+1) (by omega) (by omega)
  apply Exists.intro
  apply Exists.intro
  refine⟨?_,?_⟩
  rotate_left 1
  ·intro r0 r m tp V used T hm
   have bd:=csum_bound (i:=i) hE.q0 (fun k hk=>hm.vr a k ha hk) (fun k hk=>hm.vr b k hb hk) hi
   obtain⟨b1,b2,b3⟩:=bd j (by omega)
   obtain⟨b4,b5,b6⟩:=bd (j+1) (by omega)
   have:=hjm j (by omega);have:=hjm (j+1) (by omega)
   refine W.term hE ha hb (.inr rfl) h14 T hm (by omega) (by omega) (csum (V a) (V b) E.n i (j+1)) (by simp [csum,cterm,show¬j<=i by omega];omega) (by omega) (by omega) (by omega) (by omega) fun r' h T'=>?_
   refine W.sub ((E.n+i - j:Nat):Int) 1 h T'.h14 T'.reg.o (by omega) (by omega) (by omega) (by omega) (by omega) (by omega) fun h=>?_
   rw [wrapU_id (by omega) (by omega)]
   refine W.less h fun h=>?_
   refine W.bnz_go (p+14) h (by simp [upd,T'.h11,T'.reg.n];omega) rfl ?_
   refine W.mono (ih r0 _ m tp V used ((T'.set14 (E.n+i - (j+1)) _ (by omega)).upd _ _ (by decide)) hm) ?_
   rintro _ _ s ⟨rfl,rfl,e3,e4,e5⟩
   exact⟨rfl,rfl,e3,e4,e5⟩
  ·omega
theorem conv_body (hE:E.Ok){a b:Nat}(ha:a<E.nv)(hb:b<E.nv)(hc:At c p (convB E p a b)){i:Nat}(hi:i<E.n):
  ∃ N L,N<=8 * E.n+20/\∀ r0 r m tp V used,RegOk E r0 r->r 21=overC E->r 9=i->MemOk E tp V used m->
   W c E.mem ⟨p,r,m⟩ (fun n' l s=>n'=N/\l=L/\s.pc=p+31/\RegOk E r0 s.r/\s.r 21=overC E/\s.r 9=i/\s.m=upd m (E.scratch+i) (csum (V a) (V b) E.n i E.n % E.q)):=by
 have n1:=hE.n1;have q0:=hE.q0;have q1:=hE.q1
 obtain⟨f1,f2,f3,f4,f5,f6,f7⟩:=most_facts hE
 obtain⟨N1,L1,hN1,one⟩:=conv_one hE ha hb hc hi i 0 (by omega)
 have h11:At c (p+11) _:=hc.right.right.right
 have h22:At c (p+22) _:=hc.right.right.right.right.right.right
 have hM:=hE.mem_le
 have last:∃ L,∀ r0 r m tp V used t,TermOk E r0 r i E.n t (csum (V a) (V b) E.n i E.n)->MemOk E tp V used m->W c E.mem ⟨p+22,r,m⟩ (fun n' l s=>n'=9/\l=L/\s.pc=p+31/\RegOk E r0 s.r/\s.r 21=overC E/\s.r 9=i/\s.m=upd m (E.scratch+i) (csum (V a) (V b) E.n i E.n % E.q)):=by
  apply Exists.intro
  intro r0 r m tp V used t T hm
  obtain⟨b1,b2,b3⟩:=csum_bound (i:=i) hE.q0 (fun k hk=>hm.vr a k ha hk) (fun k hk=>hm.vr b k hb hk) hi E.n (by omega)
  have hmo:(E.n:Int) * sqr E.q=mostC E:=rfl
  refine W.addW (A:=csum (V a) (V b) E.n i E.n) (B:=overC E) h22 T.h22 (by rw [wrapU_id (by omega) (by omega)];exact T.h21) ⟨by omega,by omega⟩ ⟨by omega,by omega⟩ ⟨by omega,by omega⟩ (by omega) (by omega) fun h=>?_
  rw [wrapU_id (by omega) (by omega)]
  refine W.reduce (v:=csum (V a) (V b) E.n i E.n+overC E) h (by simp [upd]) (by simp [upd,T.reg.q]) (by simp [upd,T.reg.m]) (by omega) (by omega) (by omega) (by omega) (by omega) (by decide) fun x y z h=>?_
  refine W.st (E.scratch+i) h (by simp [upd,T.h9];omega) (by unfold Env.mem;omega) hM fun h=>W.done ?_
  refine⟨rfl,rfl,rfl,?_,by simpa [upd] using T.h21,by simpa [upd] using T.h9,?_⟩
  ·exact (((((T.reg.upd _ _ (by decide)).upd _ _ (by decide)).upd _ _ (by decide)).upd _ _ (by decide)).upd _ _ (by decide))
  ·have e:(csum (V a) (V b) E.n i E.n+overC E) % E.q=csum (V a) (V b) E.n i E.n % E.q:=by rw [Int.add_emod,f6,Int.add_zero,Int.emod_emod]
   simp [upd,e]
 obtain⟨L3,last⟩:=last
 have mid:∃ N L,N<=3+8 * (E.n - 1 - i)/\∀ r0 r m tp V used t,TermOk E r0 r i (i+1) t (csum (V a) (V b) E.n i (i+1))->MemOk E tp V used m->W c E.mem ⟨p+11,r,m⟩ (fun n' l s=>n'=N/\l=L/\s.pc=p+22/\(∃ t,TermOk E r0 s.r i E.n t (csum (V a) (V b) E.n i E.n))/\s.m=m):=by
  by_cases hl:i+1=E.n
  ·apply Exists.intro
   apply Exists.intro
   refine⟨?_,?_⟩
   rotate_left 1
   ·intro r0 r m tp V used t T hm
    refine W.less h11 fun h=>?_
    refine W.bz_go (p+22) h (by simp [upd,T.h11,T.reg.n];omega) rfl (W.done ?_)
    rw [hl] at T
    exact⟨rfl,rfl,rfl,⟨_,T.upd _ _ (by decide)⟩,rfl⟩
   ·omega
  ·obtain⟨N,L,hN,two⟩:=conv_two hE ha hb hc hi (E.n - 2 - i) (i+1) (by omega) (by omega)
   apply Exists.intro
   apply Exists.intro
   refine⟨?_,?_⟩
   rotate_left 1
   ·intro r0 r m tp V used t T hm
    refine W.less h11 fun h=>?_
    refine W.bz_no h (by simp [upd,T.h11,T.reg.n];omega) fun h=>?_
    refine W.sub (E.n:Int) 1 h (by simpa [upd] using T.reg.n) (by simpa [upd] using T.reg.o) (by omega) (by omega) (by omega) (by omega) (by omega) (by omega) fun h=>?_
    rw [wrapU_id (by omega) (by omega)]
    refine W.mono (two r0 _ m tp V used ((T.upd 16 _ (by decide)).set14 (E.n+i - (i+1)) _ (by omega)) hm) ?_
    rintro _ _ s ⟨rfl,rfl,e3,e4,e5⟩
    exact⟨rfl,rfl,e3,e4,e5⟩
   ·omega
 obtain⟨N2,L2,hN2,mid⟩:=mid
 refine⟨3+N1+N2+9,⟨1,p⟩ :: ⟨1,(p+1:Nat)⟩ :: ⟨1,(p+2:Nat)⟩ :: (L1++(L2++L3)),by omega,fun r0 r m tp V used hr h21 h9 hm=>?_⟩
 refine W.const hc (by decide) (by decide) fun h=>?_
 refine W.const h (by decide) (by decide) fun h=>?_
 refine W.mov h fun h=>?_
 have T0:TermOk E r0 (upd (upd (upd r (22:Int).toNat 0) (11:Int).toNat 0) (14:Int).toNat (upd (upd r (22:Int).toNat 0) (11:Int).toNat 0 (9:Int).toNat)) i 0 (i - 0) (csum (V a) (V b) E.n i 0):=by
  refine⟨((hr.upd _ _ (by decide)).upd _ _ (by decide)).upd _ _ (by decide),by simpa [upd] using h9,by simp [upd],by simpa [upd] using h9,by simpa [upd] using h21,by simp [upd,csum,wrapU]⟩
 refine W.bind (one r0 _ m tp V used T0 hm) ?_
 rintro _ _ ⟨pc,r1,m1⟩ ⟨rfl,rfl,e3,⟨t,T1⟩,e5⟩
 dsimp only at e3 T1 e5
 subst e3 e5
 refine W.bind (mid r0 _ _ tp V used t T1 hm) ?_
 rintro _ _ ⟨pc,r2,m2⟩ ⟨rfl,rfl,e3,⟨t,T2⟩,e5⟩
 dsimp only at e3 T2 e5
 subst e3 e5
 refine W.mono (last r0 _ _ tp V used t T2 hm) ?_
 rintro _ _ s ⟨rfl,rfl,e⟩
 exact⟨by omega,by simp;omega,e⟩
end
theorem MemOk.congr {E:Env}{tp:List Int}{V V':Vs}{used:Nat}{m:Nat->Int}(h:MemOk E tp V used m)(he:∀ v k,v<E.nv->k<E.n->V' v k=V v k):MemOk E tp V' used m:=
 ⟨h.t1,h.t2,h.m0,h.m1,fun v k hv hk=>by rw [he v k hv hk];exact h.mv v k hv hk,h.mt,fun v k hv hk=>by rw [he v k hv hk];exact h.vr v k hv hk⟩
def vmax (n:Nat):Nat:=8 * n * n+28 * n+60
def VecOk (c:List CI)(E:Env)(p len d:Nat)(f:Vs->Nat->Int):Prop:=
 ∃ N L,N<=vmax E.n/\∀ r0 r m tp V used,RegOk E r0 r->MemOk E tp V used m->
  W c E.mem ⟨p,r,m⟩ (fun n' l s=>n'=N/\l=L/\s.pc=p+len/\RegOk E r0 s.r/\MemOk E tp (setV V d (f V)) used s.m)
structure Ev where
 kind:Int
 yes:Bool
 vec:List Int
deriving DecidableEq,Repr,Inhabited
structure RS where
 tape:List Int
 V:Vs
 used:Nat
 steps:Nat
 evs:List Ev
 over:Bool
 code:Int
def RS.fin (x:RS)(code:Int):RS:={ x with over:=true,code:=code}
def RS.stepThen (fuel:Nat)(x:RS)(f:RS->RS):RS:=if x.steps>=fuel then x.fin 4 else f { x with steps:=x.steps+1}
def drawGo (E:Env)(fuel d:Nat):List Int->Nat->(Nat->Int)->RS->RS
 |[],i,f,x=>if i<E.n then x.fin 1 else { x with V:=setV x.V d f}
 |t :: rest,i,f,x=>
  if i<E.n then
   x.stepThen fuel fun x=>
    let n:=t % 2 ^ E.bits
    let x:={ x with used:=x.used+1,evs:=x.evs++[⟨2,decide (n<E.q),[]⟩]}
    if n<E.q then drawGo E fuel d rest (i+1) (upd f i n) x else drawGo E fuel d rest i f x
  else { x with V:=setV x.V d f}
def drawB (E:Env)(p d T:Nat):List CI:=
 [ci 15 12 0 0 0 1,ci 15 13 0 0 0 0,ci 13 16 12 13 0 0,ci 18 0 16 0 0 (T:Nat),ci 15 15 12 0 0 (E.fin:Nat),(⟨3,12,12,1,0,0⟩,⟨1,4096⟩),ci 16 0 0 12 0 1,
  ci 7 15 15 23 0 0,ci 13 16 15 19 0 0,ci 18 0 16 0 0 (p:Nat),stC E 15 d]
structure Cons where
 l:List Leak
 used:Nat
 rest:List Ev
 over:Bool
structure Stmt where
 op:Int
 d:Int
 a:Int
 b:Int
 c:Int
 k:Int
 body:List Stmt
 els:List Stmt
def timesN (f:RS->RS):Nat->RS->RS
 |0,x=>x
 |k+1,x=>if x.over then x else timesN f k (f x)
def untilN (fuel:Nat)(a:Nat)(f:RS->RS):Nat->RS->RS
 |0,x=>x.fin 2
 |k+1,x=>x.stepThen fuel fun x=>
  let x:=f x
  if x.over then x else
  let yes:=decide (x.V a 0≠0)
  let x:={ x with evs:=x.evs++[⟨3,yes,[]⟩]}
  if yes then x else untilN fuel a f k x
def stepF (E:Env)(s:Stmt)(V:Vs):Nat->Int:=
 let a:=s.a.toNat;let b:=s.b.toNat;let c:=s.c.toNat;let K:=s.k.toNat
 if s.op=2\/s.op=12 then fun k=>V a k else
 if s.op=3 then fun k=>(V a k+V b k) % E.q else
 if s.op=4 then fun k=>(V a k+E.q - V b k) % E.q else
 if s.op=5 then fun k=>V a k * V b k % E.q else
 if s.op=6 then fun k=>V a k * s.k % E.q else
 if s.op=7 then fun k=>csum (V a) (V b) E.n k E.n % E.q else
 if s.op=8 then fun k=>(V a k * 2 ^ K+((E.q:Int) - 1) / 2) / E.q % 2 ^ K else
 if s.op=9 then fun k=>((E.q:Int) * (V a k % 2 ^ K)+2 ^ (K - 1)) / 2 ^ K else
 if s.op=10 then fun k=>if V a k % 2=1 then V b k else V c k else
 if s.op=11 then fun k=>if k=0 then nacc (near E s.k V a) E.n else 0 else
 fun _=>0
def vecOf (E:Env)(f:Nat->Int):List Int:=(List.range E.n).map f
mutual
def exS (E:Env)(fuel:Nat):Stmt->RS->RS
 |⟨op,d,a,b,c,k,body,els⟩,x=>
  if op=16 then untilN fuel a.toNat (exL E fuel body) k.toNat x else
  x.stepThen fuel fun x=>
   if op=13 then drawGo E fuel d.toNat (x.tape.drop x.used) 0 (fun _=>0) x else
   if op=14 then
    let yes:=decide (x.V a.toNat 0≠0)
    let x:={ x with evs:=x.evs++[⟨3,yes,[]⟩]}
    if yes then exL E fuel body x else exL E fuel els x
   else if op=15 then timesN (exL E fuel body) k.toNat x else
   let f:=stepF E ⟨op,d,a,b,c,k,[],[]⟩ x.V
   let x:={ x with V:=setV x.V d.toNat f}
   if op=12 then { x with evs:=x.evs++[⟨1,false,vecOf E f⟩]} else x
def exL (E:Env)(fuel:Nat):List Stmt->RS->RS
 |[],x=>x
 |s :: l,x=>if x.over then x else exL E fuel l (exS E fuel s x)
end
def vecC (E:Env)(p T:Nat)(s:Stmt):List CI:=
 let d:=s.d.toNat;let a:=s.a.toNat;let b:=s.b.toNat;let e:=s.c.toNat;let K:=s.k.toNat
 if s.op=1 then eachC E.n p (zeroB E d) else
 if s.op=2\/s.op=12 then eachC E.n p (copyB E d a) else
 if s.op=3 then eachC E.n p (addB E d a b) else
 if s.op=4 then eachC E.n p (subB E d a b) else
 if s.op=5 then eachC E.n p (mulB E d a b) else
 if s.op=6 then ci 1 21 0 0 0 s.k :: eachC E.n (p+1) (scaleB E d a) else
 if s.op=7 then ci 1 21 0 0 0 (overC E) :: (eachC E.n (p+1) (convB E (p+2) a b)++eachC E.n (p+36) (conv2B E d)) else
 if s.op=8 then ci 1 21 0 0 0 (((E.q:Int) - 1) / 2) :: ci 1 23 0 0 0 (2 ^ K - 1) :: eachC E.n (p+2) (roundB E d a K) else
 if s.op=9 then ci 1 21 0 0 0 (2 ^ (K - 1)) :: ci 1 23 0 0 0 (2 ^ K - 1) :: eachC E.n (p+2) (expandB E d a K) else
 if s.op=10 then eachC E.n p (pickB E d a b e) else
 if s.op=11 then ci 1 21 0 0 0 s.k :: ci 1 22 0 0 0 1 :: (eachC E.n (p+2) (normB E a)++(eachC E.n (p+12) (zeroB E d)++[ci 16 0 0 22 0 (E.place d:Nat)])) else
 if s.op=13 then ci 1 23 0 0 0 (2 ^ E.bits - 1) :: eachC E.n (p+1) (drawB E (p+2) d T) else []
mutual
def genS (E:Env)(T G:Nat):Nat->Nat->Stmt->List CI
 |deep,p,⟨op,d,a,b,c,k,body,els⟩=>
  if op=14 then
   let x:=genL E T G (deep+1) (p+2) body
   let no:=p+2+x.length+1
   let y:=genL E T G (deep+1) no els
   [ci 15 12 0 0 0 (E.place a.toNat:Nat),ci 18 0 12 0 0 (no:Nat)]++(x++(ci 17 0 0 0 0 ((no+y.length:Nat):Int) :: y))
  else if op=15 then
   ci 1 (2+deep:Nat) 0 0 0 k :: (genL E T G (deep+1) (p+1) body++[(⟨4,(2+deep:Nat),(2+deep:Nat),1,0,0⟩,⟨0,k⟩),ci 19 0 (2+deep:Nat) 0 0 ((p+1:Nat):Int)])
  else if op=16 then
   let x:=genL E T G (deep+1) (p+1) body
   ci 1 (2+deep:Nat) 0 0 0 k :: (x++[ci 15 12 0 0 0 (E.place a.toNat:Nat),ci 19 0 12 0 0 ((p+1+x.length+5:Nat):Int),
    (⟨4,(2+deep:Nat),(2+deep:Nat),1,0,0⟩,⟨0,k⟩),ci 19 0 (2+deep:Nat) 0 0 ((p+1:Nat):Int),ci 17 0 0 0 0 (G:Nat)])
  else vecC E p T ⟨op,d,a,b,c,k,[],[]⟩
def genL (E:Env)(T G:Nat):Nat->Nat->List Stmt->List CI
 |_,_,[]=>[]
 |deep,p,s :: l=>let x:=genS E T G deep p s;x++genL E T G deep (p+x.length) l
end
def isVar (E:Env)(v:Int):Prop:=0<=v/\v<E.nv
structure GoodV (E:Env)(s:Stmt):Prop where
 op:1<=s.op/\s.op<=13
 d:isVar E s.d
 a:s.op≠1->s.op≠13->isVar E s.a
 b:s.op=3\/s.op=4\/s.op=5\/s.op=7\/s.op=10->isVar E s.b
 c:s.op=10->isVar E s.c
 k6:s.op=6->0<=s.k/\s.k<E.q
 k8:s.op=8\/s.op=9->1<=s.k/\s.k<=30/\(2:Int) ^ s.k.toNat<E.q
 k11:s.op=11->0<=s.k/\s.k<=E.q
mutual
def GoodS (E:Env):Nat->Stmt->Prop
 |deep,⟨op,d,a,b,c,k,body,els⟩=>
  deep<=6/\
  (op=14/\isVar E a/\GoodL E (deep+1) body/\GoodL E (deep+1) els\/
   op=15/\1<=k/\k<=50/\GoodL E (deep+1) body\/
   op=16/\1<=k/\k<=50/\isVar E a/\GoodL E (deep+1) body\/
   GoodV E ⟨op,d,a,b,c,k,[],[]⟩)
def GoodL (E:Env):Nat->List Stmt->Prop
 |_,[]=>True
 |deep,s :: l=>GoodS E deep s/\GoodL E deep l
end
def RegFix (E:Env)(r:Nat->Int):Prop:=RegOk E r r
theorem RegOk.fix {E:Env}{r0 r:Nat->Int}(h:RegOk E r0 r):RegFix E r:=⟨h.z,h.o,h.n,h.q,h.m,fun _ _ _=>rfl⟩
def Wd (E:Env):Nat:=16 * E.n * E.n+16384
def Post (C:List Ev->Nat->Cons)(E:Env)(q T G deep:Nat)(x y:RS)(ev:List Ev)(r:Nat->Int):Nat->List Leak->Cfg->Prop:=fun n l s=>
 n<=Wd E * (y.steps - x.steps)/\(∀ rest,(y.over=true->rest=[])->C (ev++rest) x.used=⟨l,y.used,rest,y.over⟩)/\
  (y.over=true->s.pc=(if y.code=1 then T else G)/\s.m 1=y.used)/\
  (y.over=false->s.pc=q/\RegFix E s.r/\(∀ j,2<=j->j<2+deep->s.r j=r j)/\MemOk E y.tape y.V y.used s.m)
structure Goes (x y:RS)(ev:List Ev):Prop where
 evs:y.evs=x.evs++ev
 steps:x.steps<=y.steps
 over:y.over=true->y.code=1\/y.code=2
def Sim (c:List CI)(E:Env)(p q T G deep:Nat)(f:RS->RS):Prop:=
 ∃ C:List Ev->Nat->Cons,∀ x:RS,x.over=false->x.code=0->((f x).over=false->(f x).code=0)/\((f x).code≠4->∃ ev,Goes x (f x) ev/\
  ∀ r m,RegFix E r->MemOk E x.tape x.V x.used m->W c E.mem ⟨p,r,m⟩ (Post C E q T G deep x (f x) ev r))
section
variable {c:List CI} {E:Env} {p q T G deep fuel:Nat}
theorem Sim.nil:Sim c E p p T G deep (fun x=>x):=by
 refine⟨fun ev u=>⟨[],u,ev,false⟩,fun x hov hc0=>⟨fun _=>hc0,fun _=>⟨[],⟨by simp,Nat.le_refl _,by simp [hov]⟩,fun r m hr hm=>W.done ⟨by simp,fun rest _=>by simp [hov],by simp [hov],fun _=>⟨rfl,hr,fun _ _ _=>rfl,hm⟩⟩⟩⟩⟩
end
section
variable {c:List CI} {E:Env} {p q T G deep fuel:Nat}
theorem vec_len (E:Env)(p T:Nat)(s:Stmt)(h:1<=s.op/\s.op<=12):(vecC E p T s).length=
  if s.op=1 then 5 else if s.op=2\/s.op=12 then 6 else if s.op=3 then 11 else if s.op=4 then 12 else if s.op=5 then 15 else if s.op=6 then 15 else if s.op=7 then 42 else
   if s.op=8 then 17 else if s.op=9 then 12 else if s.op=10 then 10 else 18:=by
 have hcases:s.op=1\/s.op=2\/s.op=3\/s.op=4\/s.op=5\/s.op=6\/s.op=7\/s.op=8\/s.op=9\/s.op=10\/s.op=11\/s.op=12:=by omega
 rcases hcases with h|h|h|h|h|h|h|h|h|h|h|h<;> simp only [vecC,h]<;> rfl
theorem VecOk.as {len d:Nat}{f g:Vs->Nat->Int}(h:VecOk c E p len d f)(e:∀ V,g V=f V):VecOk c E p len d g:=by
 obtain rfl:g=f:=funext e
 exact h
end
theorem Sim.congr {c:List CI}{E:Env}{p q T G deep:Nat}{f g:RS->RS}(h:Sim c E p q T G deep f)(e:∀ x,x.over=false->g x=f x):Sim c E p q T G deep g:=by
 obtain⟨C,h⟩:=h
 exact⟨C,fun x hov hc=>by rw [e x hov];exact h x hov hc⟩
mutual
def drawsS:Stmt->Bool
 |⟨op,_,_,_,_,_,body,els⟩=>if op=13 then true else if op=14 then drawsL body || drawsL els else if op=15\/op=16 then drawsL body else false
def drawsL:List Stmt->Bool
 |[]=>false
 |s :: l=>drawsS s || drawsL l
end
mutual
def untilsS:Stmt->Bool
 |⟨op,_,_,_,_,_,body,els⟩=>if op=16 then true else if op=14 then untilsL body || untilsL els else if op=15 then untilsL body else false
def untilsL:List Stmt->Bool
 |[]=>false
 |s :: l=>untilsS s || untilsL l
end
section
variable {E:Env} {fuel:Nat}
def beginC (E:Env):List CI:=[ci 1 1 0 0 0 1,ci 1 10 0 0 0 E.n,ci 1 19 0 0 0 E.q,ci 1 20 0 0 0 (18446744073709551615 / (E.q:Int))]
def endC (body:List Stmt):List CI:=ci 20 0 0 0 0 0 :: ((if drawsL body then [ci 20 0 0 0 0 1] else [])++(if untilsL body then [ci 20 0 0 0 0 2] else []))
def outT (len:Nat):Nat:=len+1
def outG (len:Nat)(body:List Stmt):Nat:=len+1+(if drawsL body then 1 else 0)
def bodyP (body:List Stmt):Nat:=if body.isEmpty then 0 else 4
def progC (E:Env)(body:List Stmt)(T G:Nat):List CI:=(if body.isEmpty then [] else beginC E)++(genL E T G 0 (bodyP body) body++endC body)
end
structure RRes where
 code:Int
 mem:List Int
 leaks:List Leak
 steps:Int
 wrong:Int
deriving DecidableEq,Repr,Inhabited
instance (i:Inst)(s:Span)(a b:Int):Decidable (inside i s a b):=by unfold inside;infer_instance
def gI (l:List Int)(i:Int):Int:=l.getD i.toNat 0
def setI (l:List Int)(i:Int)(v:Int):List Int:=l.set i.toNat v
def rrun (c:List Inst)(sp:List Span)(memN:Int):Nat->Int->List Int->List Int->List Leak->Int->RRes
 |k,pc,regs,mem,leaks,steps=>
  if pc>=c.length then ⟨3,mem,leaks,steps, -1⟩ else
  match k with
  |0=>⟨4,mem,leaks,steps, -1⟩
  |k+1=>
   let i:=c.getD pc.toNat default
   let leaks:=leaks++[⟨1,pc⟩]
   let steps:=steps+1
   let a:=gI regs i.a
   let b:=gI regs i.b
   if i.op=15\/i.op=16 then
    let at_:=wrapU (a+wrapU i.k)
    let leaks:=leaks++[⟨3,sgn at_⟩]
    if at_>=memN then ⟨3,mem,leaks,steps, -1⟩ else
    if i.op=15 then rrun c sp memN k (pc+1) (setI regs i.d (gI mem at_)) mem leaks steps
    else rrun c sp memN k (pc+1) regs (setI mem at_ b) leaks steps
   else if i.op=17 then rrun c sp memN k i.k regs mem leaks steps
   else if i.op=18\/i.op=19 then
    let goes:=decide (decide (a=0)=decide (i.op=18))
    let leaks:=leaks++[⟨2,if goes then 1 else 0⟩]
    rrun c sp memN k (if goes then i.k else pc+1) regs mem leaks steps
   else if i.op=20 then ⟨i.k,mem,leaks,steps, -1⟩
   else if sp≠[]/\¬inside i (sp.getD pc.toNat default) a b then ⟨0,mem,leaks,steps,pc⟩
   else rrun c sp memN k (pc+1) (setI regs i.d (wvalue i a b (gI regs i.c))) mem leaks steps
def Rep (l:List Int)(n:Nat)(f:Nat->Int):Prop:=l.length=n/\∀ j,j<n->l.getD j 0=f j
theorem Rep.set {l:List Int}{n:Nat}{f:Nat->Int}(h:Rep l n f)(j:Nat)(v:Int)(hj:j<n):Rep (l.set j v) n (upd f j v):=by
 refine⟨by simp [h.1],fun k hk=>?_⟩
 unfold upd
 by_cases e:k=j
 ·subst e;simp [List.getD_eq_getElem?_getD,h.1,hk]
 ·rw [if_neg e,<-h.2 k hk]
  simp only [List.getD_eq_getElem?_getD,List.getElem?_set]
  rw [if_neg (by omega)]
def RegsIn (n:Nat)(i:Inst):Prop:=0<=i.a/\i.a<n/\0<=i.b/\i.b<n/\0<=i.c/\i.c<n/\0<=i.d/\i.d<n
def insts (c:List CI):List Inst:=c.map (·.1)
def spansOf (c:List CI):List Span:=c.map (·.2)
def hasD (op:Int):Prop:=1<=op/\op<=15
def hasA (op:Int):Prop:=2<=op/\op<=16\/op=18\/op=19
def hasB (op:Int):Prop:=3<=op/\op<=9\/op=13\/op=14\/op=16
def hasC (op:Int):Prop:=op=14
def hasK (op:Int):Prop:=op=1\/10<=op/\op<=12\/15<=op/\op<=20
instance (op:Int):Decidable (hasD op):=by unfold hasD;infer_instance
instance (op:Int):Decidable (hasA op):=by unfold hasA;infer_instance
instance (op:Int):Decidable (hasB op):=by unfold hasB;infer_instance
instance (op:Int):Decidable (hasC op):=by unfold hasC;infer_instance
instance (op:Int):Decidable (hasK op):=by unfold hasK;infer_instance
def regI (h:Prop)(x:Int):Prop:=(h->0<=x/\x<24)/\(¬h->x=0)
def okI (len:Nat)(i:Inst):Prop:=
 (1<=i.op/\i.op<=20)/\regI (hasD i.op) i.d/\regI (hasA i.op) i.a/\regI (hasB i.op) i.b/\regI (hasC i.op) i.c/\(¬hasK i.op->i.k=0)/\
 (10<=i.op/\i.op<=12->0<=i.k/\i.k<=63)/\(i.op=20->0<=i.k/\i.k<=2)/\(i.op=15\/i.op=16->0<=i.k/\i.k<=65535)/\(17<=i.op/\i.op<=19->0<=i.k/\i.k<=len)
theorem okI.regs {len:Nat}{i:Inst}(h:okI len i):RegsIn 25 i:=by
 obtain⟨_,d,a,b,c,_⟩:=h
 have f:∀ {p:Prop} {x:Int},regI p x->0<=x/\x<24:=fun {p x} h=>by
  by_cases hp:p
  ·exact h.1 hp
  ·rw [h.2 hp];decide
 have:=f d;have:=f a;have:=f b;have:=f c
 unfold RegsIn
 omega
def okC (len:Nat)(l:List CI):Prop:=∀ x∈l,okI len x.1
theorem okC.nil (len:Nat):okC len []:=fun x hx=>by simp at hx
theorem okC.cons {len:Nat}{x:CI}{l:List CI}(h:okI len x.1)(h2:okC len l):okC len (x :: l):=fun y hy=>by
 rcases List.mem_cons.1 hy with rfl|hy
 ·exact h
 ·exact h2 y hy
theorem okC.append {len:Nat}{l l2:List CI}(h:okC len l)(h2:okC len l2):okC len (l++l2):=fun y hy=>by
 rcases List.mem_append.1 hy with hy|hy
 ·exact h y hy
 ·exact h2 y hy
section
variable {len:Nat}
theorem ok_loop {n:Int}{p:Nat}{body:List CI}(hb:okC len body)(hp:p+1<=len):okC len (eachC n p body):=by
 refine okC.cons ?_ (hb.append (okC.cons ?_ (okC.cons ?_ (okC.cons ?_ (okC.nil _)))))
 all_goals (refine⟨?_,?_,?_,?_,?_,?_,?_,?_,?_,?_⟩<;> simp [ci,upC,regI,hasD,hasA,hasB,hasC,hasK];try omega)
end
section
variable {len:Nat} {E:Env}
theorem place_le (hE:E.Ok){v:Nat}(hv:v<E.nv):(E.place v:Int)<=65535:=by
 have:=Env.place_lt hv (show 0<E.n by have:=hE.n0;omega)
 have:=hE.mem_le;unfold Env.mem Env.scratch at this;omega
theorem ok_ld (hE:E.Ok){x y:Int}{v:Nat}(hx:0<=x/\x<24)(hy:0<=y/\y<24)(hv:v<E.nv):okI len (ci 15 x y 0 0 (E.place v:Nat)).1:=by
 have:=place_le hE hv
 refine⟨?_,?_,?_,?_,?_,?_,?_,?_,?_,?_⟩<;> simp [ci,regI,hasD,hasA,hasB,hasC,hasK]<;> omega
theorem ok_st (hE:E.Ok){x y:Int}{v:Nat}(hx:0<=x/\x<24)(hy:0<=y/\y<24)(hv:v<E.nv):okI len (ci 16 0 y x 0 (E.place v:Nat)).1:=by
 have:=place_le hE hv
 refine⟨?_,?_,?_,?_,?_,?_,?_,?_,?_,?_⟩<;> simp [ci,regI,hasD,hasA,hasB,hasC,hasK]<;> omega
theorem ok_three {op d a b:Int}{s:Span}(hop:3<=op/\op<=9\/op=13)(hd:0<=d/\d<24)(ha:0<=a/\a<24)(hb:0<=b/\b<24):okI len ((⟨op,d,a,b,0,0⟩,s):CI).1:=by
 refine⟨?_,?_,?_,?_,?_,?_,?_,?_,?_,?_⟩<;> simp [regI,hasD,hasA,hasB,hasC,hasK]<;> omega
theorem ok_const {d k:Int}{s:Span}(hd:0<=d/\d<24):okI len ((⟨1,d,0,0,0,k⟩,s):CI).1:=by
 refine⟨?_,?_,?_,?_,?_,?_,?_,?_,?_,?_⟩<;> simp [regI,hasD,hasA,hasB,hasC,hasK]<;> omega
theorem ok_sel {d a b c:Int}{s:Span}(hd:0<=d/\d<24)(ha:0<=a/\a<24)(hb:0<=b/\b<24)(hc:0<=c/\c<24):okI len ((⟨14,d,a,b,c,0⟩,s):CI).1:=by
 refine⟨?_,?_,?_,?_,?_,?_,?_,?_,?_,?_⟩<;> simp [regI,hasD,hasA,hasB,hasC,hasK]<;> omega
theorem ok_mov {d a:Int}{s:Span}(hd:0<=d/\d<24)(ha:0<=a/\a<24):okI len ((⟨2,d,a,0,0,0⟩,s):CI).1:=by
 refine⟨?_,?_,?_,?_,?_,?_,?_,?_,?_,?_⟩<;> simp [regI,hasD,hasA,hasB,hasC,hasK]<;> omega
theorem ok_shift {op d a k:Int}{s:Span}(hop:10<=op/\op<=12)(hd:0<=d/\d<24)(ha:0<=a/\a<24)(hk:0<=k/\k<=63):okI len ((⟨op,d,a,0,0,k⟩,s):CI).1:=by
 refine⟨?_,?_,?_,?_,?_,?_,?_,?_,?_,?_⟩<;> simp [regI,hasD,hasA,hasB,hasC,hasK]<;> omega
theorem ok_branch {op a k:Int}{s:Span}(hop:op=18\/op=19)(ha:0<=a/\a<24)(hk:0<=k/\k<=len):okI len ((⟨op,0,a,0,0,k⟩,s):CI).1:=by
 refine⟨?_,?_,?_,?_,?_,?_,?_,?_,?_,?_⟩<;> simp [regI,hasD,hasA,hasB,hasC,hasK]<;> omega
theorem ok_br {k:Int}{s:Span}(hk:0<=k/\k<=len):okI len ((⟨17,0,0,0,0,k⟩,s):CI).1:=by
 refine⟨?_,?_,?_,?_,?_,?_,?_,?_,?_,?_⟩<;> simp [regI,hasD,hasA,hasB,hasC,hasK]<;> omega
theorem ok_halt {k:Int}{s:Span}(hk:0<=k/\k<=2):okI len ((⟨20,0,0,0,0,k⟩,s):CI).1:=by
 refine⟨?_,?_,?_,?_,?_,?_,?_,?_,?_,?_⟩<;> simp [regI,hasD,hasA,hasB,hasC,hasK]<;> omega
theorem ok_ld0 {x y k:Int}(hx:0<=x/\x<24)(hy:0<=y/\y<24)(hk:0<=k/\k<=65535):okI len (ci 15 x y 0 0 k).1:=by
 refine⟨?_,?_,?_,?_,?_,?_,?_,?_,?_,?_⟩<;> simp [ci,regI,hasD,hasA,hasB,hasC,hasK]<;> omega
theorem ok_st0 {x y k:Int}(hx:0<=x/\x<24)(hy:0<=y/\y<24)(hk:0<=k/\k<=65535):okI len (ci 16 0 y x 0 k).1:=by
 refine⟨?_,?_,?_,?_,?_,?_,?_,?_,?_,?_⟩<;> simp [ci,regI,hasD,hasA,hasB,hasC,hasK]<;> omega
theorem ok_cut {q x:Int}(hx:0<=x/\x<24):okC len (cutC q x):=
 .cons (ok_three (.inr rfl) (by decide) hx (by decide)) (.cons (ok_three (by decide) (by decide) hx (by decide)) (.cons (ok_sel hx (by decide) hx (by decide)) (.nil _)))
theorem ok_quot {q most x:Int}(hx:0<=x/\x<24):okC len (quotC q most x):=
 .cons (ok_three (by decide) (by decide) hx (by decide)) (.cons (ok_three (by decide) (by decide) (by decide) (by decide)) (.cons (ok_three (by decide) (by decide) hx (by decide)) (.nil _)))
theorem ok_reduce {q most x:Int}(hx:0<=x/\x<24):okC len (reduceC q most x):=(ok_quot hx).append (.cons (ok_mov hx (by decide)) (ok_cut hx))
theorem ok_zeroB (hE:E.Ok){d:Nat}(hd:d<E.nv):okC len (zeroB E d):= .cons (ok_st hE (by decide) (by decide) hd) (.nil _)
theorem ok_copyB (hE:E.Ok){d a:Nat}(hd:d<E.nv)(ha:a<E.nv):okC len (copyB E d a):= .cons (ok_ld hE (by decide) (by decide) ha) (.cons (ok_st hE (by decide) (by decide) hd) (.nil _))
theorem ok_addB (hE:E.Ok){d a b:Nat}(hd:d<E.nv)(ha:a<E.nv)(hb:b<E.nv):okC len (addB E d a b):=
 .cons (ok_ld hE (by decide) (by decide) ha) (.cons (ok_ld hE (by decide) (by decide) hb) (.cons (ok_three (by decide) (by decide) (by decide) (by decide)) ((ok_cut (by decide)).append (.cons (ok_st hE (by decide) (by decide) hd) (.nil _)))))
theorem ok_subB (hE:E.Ok){d a b:Nat}(hd:d<E.nv)(ha:a<E.nv)(hb:b<E.nv):okC len (subB E d a b):=
 .cons (ok_ld hE (by decide) (by decide) ha) (.cons (ok_ld hE (by decide) (by decide) hb) (.cons (ok_three (by decide) (by decide) (by decide) (by decide)) (.cons (ok_three (by decide) (by decide) (by decide) (by decide)) ((ok_cut (by decide)).append (.cons (ok_st hE (by decide) (by decide) hd) (.nil _))))))
theorem ok_mulB (hE:E.Ok){d a b:Nat}(hd:d<E.nv)(ha:a<E.nv)(hb:b<E.nv):okC len (mulB E d a b):=
 .cons (ok_ld hE (by decide) (by decide) ha) (.cons (ok_ld hE (by decide) (by decide) hb) (.cons (ok_three (by decide) (by decide) (by decide) (by decide)) ((ok_reduce (by decide)).append (.cons (ok_st hE (by decide) (by decide) hd) (.nil _)))))
theorem ok_scaleB (hE:E.Ok){d a:Nat}(hd:d<E.nv)(ha:a<E.nv):okC len (scaleB E d a):=
 .cons (ok_ld hE (by decide) (by decide) ha) (.cons (ok_three (by decide) (by decide) (by decide) (by decide)) ((ok_reduce (by decide)).append (.cons (ok_st hE (by decide) (by decide) hd) (.nil _))))
theorem ok_pickB (hE:E.Ok){d a b c:Nat}(hd:d<E.nv)(ha:a<E.nv)(hb:b<E.nv)(hc:c<E.nv):okC len (pickB E d a b c):=
 .cons (ok_ld hE (by decide) (by decide) ha) (.cons (ok_ld hE (by decide) (by decide) hb) (.cons (ok_ld hE (by decide) (by decide) hc) (.cons (ok_three (by decide) (by decide) (by decide) (by decide)) (.cons (ok_sel (by decide) (by decide) (by decide) (by decide)) (.cons (ok_st hE (by decide) (by decide) hd) (.nil _))))))
theorem ok_roundB (hE:E.Ok){d a K:Nat}(hd:d<E.nv)(ha:a<E.nv)(hK:K<=63):okC len (roundB E d a K):=
 .cons (ok_ld hE (by decide) (by decide) ha) (.cons (ok_shift (by decide) (by decide) (by decide) (by omega)) (.cons (ok_three (by decide) (by decide) (by decide) (by decide)) ((ok_quot (by decide)).append
  (.cons (ok_three (by decide) (by decide) (by decide) (by decide)) (.cons (ok_three (by decide) (by decide) (by decide) (by decide)) (.cons (ok_sel (by decide) (by decide) (by decide) (by decide)) (.cons (ok_three (by decide) (by decide) (by decide) (by decide)) (.cons (ok_st hE (by decide) (by decide) hd) (.nil _)))))))))
theorem ok_expandB (hE:E.Ok){d a K:Nat}(hd:d<E.nv)(ha:a<E.nv)(hK:K<=63):okC len (expandB E d a K):=
 .cons (ok_ld hE (by decide) (by decide) ha) (.cons (ok_three (by decide) (by decide) (by decide) (by decide)) (.cons (ok_three (by decide) (by decide) (by decide) (by decide)) (.cons (ok_three (by decide) (by decide) (by decide) (by decide)) (.cons (ok_shift (by decide) (by decide) (by decide) (by omega)) (.cons (ok_st hE (by decide) (by decide) hd) (.nil _))))))
theorem ok_normB (hE:E.Ok){a:Nat}(ha:a<E.nv):okC len (normB E a):=
 .cons (ok_ld hE (by decide) (by decide) ha) (.cons (ok_three (by decide) (by decide) (by decide) (by decide)) (.cons (ok_three (by decide) (by decide) (by decide) (by decide)) (.cons (ok_sel (by decide) (by decide) (by decide) (by decide)) (.cons (ok_three (by decide) (by decide) (by decide) (by decide)) (.cons (ok_three (by decide) (by decide) (by decide) (by decide)) (.nil _))))))
theorem ok_termC (hE:E.Ok){a b:Nat}{op low:Int}(hop:op=3\/op=4)(ha:a<E.nv)(hb:b<E.nv):okC len (termC E a b op low):=
 .cons (ok_ld hE (by decide) (by decide) ha) (.cons (ok_ld hE (by decide) (by decide) hb) (.cons (ok_three (by decide) (by decide) (by decide) (by decide)) (.cons (ok_three (by omega) (by decide) (by decide) (by decide)) (.cons (ok_three (by decide) (by decide) (by decide) (by decide)) (.nil _)))))
theorem scratch_le (hE:E.Ok):(E.scratch:Int)<=65535:=by have h1:=hE.mem_le;have:=hE.n0;unfold Env.mem at h1;omega
theorem ok_convB (hE:E.Ok){p a b:Nat}(ha:a<E.nv)(hb:b<E.nv)(hp:p+31<=len):okC len (convB E p a b):=by
 have:=scratch_le hE
 refine okC.append (.cons (ok_const (by decide)) (.cons (ok_const (by decide)) (.cons (ok_mov (by decide) (by decide)) (.nil _)))) (okC.append (ok_termC hE (.inl rfl) ha hb) (okC.append ?_ (okC.append ?_ (okC.append (ok_termC hE (.inr rfl) ha hb) (okC.append ?_ (.cons ?_ (okC.append (ok_reduce (by decide)) (.cons ?_ (.nil _)))))))))
 ·exact .cons (ok_branch (.inl rfl) (by decide) (by omega)) (.cons (ok_three (by decide) (by decide) (by decide) (by decide)) (.cons (ok_br (by omega)) (.nil _)))
 ·exact .cons (ok_three (by decide) (by decide) (by decide) (by decide)) (.cons (ok_branch (.inl rfl) (by decide) (by omega)) (.cons (ok_three (by decide) (by decide) (by decide) (by decide)) (.nil _)))
 ·exact .cons (ok_three (by decide) (by decide) (by decide) (by decide)) (.cons (ok_three (by decide) (by decide) (by decide) (by decide)) (.cons (ok_branch (.inr rfl) (by decide) (by omega)) (.nil _)))
 ·exact ok_three (by decide) (by decide) (by decide) (by decide)
 ·exact ok_st0 (by decide) (by decide) (by omega)
theorem ok_conv2B (hE:E.Ok){d:Nat}(hd:d<E.nv):okC len (conv2B E d):=by
 have:=scratch_le hE
 exact .cons (ok_ld0 (by decide) (by decide) (by omega)) (.cons (ok_st hE (by decide) (by decide) hd) (.nil _))
theorem ok_drawB (hE:E.Ok){p d T:Nat}(hd:d<E.nv)(hp:p<=len)(hT:T<=len):okC len (drawB E p d T):=by
 have h1:=scratch_le hE
 have h2:(E.fin:Int)<=65535:=by unfold Env.scratch at h1;omega
 exact .cons (ok_ld0 (by decide) (by decide) (by decide)) (.cons (ok_ld0 (by decide) (by decide) (by decide)) (.cons (ok_three (by decide) (by decide) (by decide) (by decide)) (.cons (ok_branch (.inl rfl) (by decide) (by omega)) (.cons (ok_ld0 (by decide) (by decide) (by omega)) (.cons (ok_three (by decide) (by decide) (by decide) (by decide)) (.cons (ok_st0 (by decide) (by decide) (by decide))
  (.cons (ok_three (by decide) (by decide) (by decide) (by decide)) (.cons (ok_three (by decide) (by decide) (by decide) (by decide)) (.cons (ok_branch (.inl rfl) (by decide) (by omega)) (.cons (ok_st hE (by decide) (by decide) hd) (.nil _)))))))))))
theorem ok_vec (hE:E.Ok){s:Stmt}(hs:GoodV E s){p T:Nat}(hp:p+(vecC E p T s).length<=len)(hT:T<=len):okC len (vecC E p T s):=by
 obtain⟨hop,hd,ha,hb,he,k6,k8,k11⟩:=hs
 have vd:s.d.toNat<E.nv:=by unfold isVar at hd;omega
 have va:s.op≠1->s.op≠13->s.a.toNat<E.nv:=fun h h2=>by have:=ha h h2;unfold isVar at this;omega
 have vb:s.op=3\/s.op=4\/s.op=5\/s.op=7\/s.op=10->s.b.toNat<E.nv:=fun h=>by have:=hb h;unfold isVar at this;omega
 have kk:s.op=8\/s.op=9->s.k.toNat<=63:=fun h=>by have:=k8 h;omega
 have hcases:s.op=1\/s.op=2\/s.op=3\/s.op=4\/s.op=5\/s.op=6\/s.op=7\/s.op=8\/s.op=9\/s.op=10\/s.op=11\/s.op=12\/s.op=13:=by omega
 have hl:p+5<=len/\(s.op=7->p+42<=len)/\(s.op=11->p+18<=len):=by
  by_cases h13:s.op=13
  ·have:(vecC E p T s).length=16:=by simp only [vecC,h13];rfl
   omega
  ·have:=vec_len E p T s ⟨hop.1,by omega⟩
   rw [this] at hp
   refine⟨?_,fun h=>?_,fun h=>?_⟩
   ·repeat' split at hp
    all_goals omega
   ·simp [h] at hp;exact hp
   ·simp [h] at hp;exact hp
 obtain⟨l5,l7,l11⟩:=hl
 rcases hcases with h|h|h|h|h|h|h|h|h|h|h|h|h<;> simp only [vecC,h]<;> simp
 ·exact ok_loop (ok_zeroB hE vd) (by omega)
 ·exact ok_loop (ok_copyB hE vd (va (by omega) (by omega))) (by omega)
 ·exact ok_loop (ok_addB hE vd (va (by omega) (by omega)) (vb (by omega))) (by omega)
 ·exact ok_loop (ok_subB hE vd (va (by omega) (by omega)) (vb (by omega))) (by omega)
 ·exact ok_loop (ok_mulB hE vd (va (by omega) (by omega)) (vb (by omega))) (by omega)
 ·exact .cons (ok_const (by decide)) (ok_loop (ok_scaleB hE vd (va (by omega) (by omega))) (by omega))
 ·exact .cons (ok_const (by decide)) ((ok_loop (ok_convB hE (va (by omega) (by omega)) (vb (by omega)) (by have:=l7 h;omega)) (by omega)).append (ok_loop (ok_conv2B hE vd) (by have:=l7 h;omega)))
 ·exact .cons (ok_const (by decide)) (.cons (ok_const (by decide)) (ok_loop (ok_roundB hE vd (va (by omega) (by omega)) (kk (by omega))) (by omega)))
 ·exact .cons (ok_const (by decide)) (.cons (ok_const (by decide)) (ok_loop (ok_expandB hE vd (va (by omega) (by omega)) (kk (by omega))) (by omega)))
 ·exact ok_loop (ok_pickB hE vd (va (by omega) (by omega)) (vb (by omega)) (by have:=he h;unfold isVar at this;omega)) (by omega)
 ·have:=place_le hE vd
  exact .cons (ok_const (by decide)) (.cons (ok_const (by decide)) ((ok_loop (ok_normB hE (va (by omega) (by omega))) (by omega)).append ((ok_loop (ok_zeroB hE vd) (by have:=l11 h;omega)).append (.cons (ok_st0 (by decide) (by decide) (by omega)) (.nil _)))))
 ·exact ok_loop (ok_copyB hE vd (va (by omega) (by omega))) (by omega)
 ·exact .cons (ok_const (by decide)) (ok_loop (ok_drawB hE vd (by omega) hT) (by omega))
mutual
theorem ok_stmt (hE:E.Ok){T G:Nat}(hT:T<=len)(hG:G<=len):∀ (s:Stmt) (deep p:Nat),GoodS E deep s->p+(genS E T G deep p s).length<=len->okC len (genS E T G deep p s)
 |⟨op,d,a,b,e,k,body,els⟩,deep,p,hs,hp=>by
  unfold GoodS at hs
  obtain⟨hdeep,hs⟩:=hs
  rcases hs with⟨rfl,ha,hb,he⟩|⟨rfl,k1,k2,hb⟩|⟨rfl,k1,k2,ha,hb⟩|hv
  ·unfold isVar at ha
   simp only [genS,if_true] at hp ⊢
   simp at hp
   have h1:=ok_list hE hT hG body (deep+1) (p+2) hb (by omega)
   have h2:=ok_list hE hT hG els (deep+1) (p+2+(genL E T G (deep+1) (p+2) body).length+1) he (by omega)
   refine okC.append (.cons (ok_ld hE (by decide) (by decide) (by omega)) (.cons (ok_branch (.inl rfl) (by decide) ?_) (.nil _))) (h1.append (.cons (ok_br ?_) h2))
   ·omega
   ·omega
  ·simp only [genS,show¬(15:Int)=14 by decide,if_false,if_true] at hp ⊢
   simp at hp
   have h1:=ok_list hE hT hG body (deep+1) (p+1) hb (by omega)
   exact .cons (ok_const (by omega)) (h1.append (.cons (ok_three (by decide) (by omega) (by omega) (by decide)) (.cons (ok_branch (.inr rfl) (by omega) (by omega)) (.nil _))))
  ·unfold isVar at ha
   simp only [genS,show¬(16:Int)=14 by decide,show¬(16:Int)=15 by decide,if_false,if_true] at hp ⊢
   simp at hp
   have h1:=ok_list hE hT hG body (deep+1) (p+1) hb (by omega)
   refine .cons (ok_const (by omega)) (h1.append (.cons (ok_ld hE (by decide) (by decide) (by omega)) (.cons (ok_branch (.inr rfl) (by decide) ?_) (.cons (ok_three (by decide) (by omega) (by omega) (by decide)) (.cons (ok_branch (.inr rfl) (by omega) ?_) (.cons (ok_br ?_) (.nil _)))))))
   all_goals omega
  ·have hop:=hv.op
   dsimp only at hop
   have e14:¬op=14:=by omega
   have e15:¬op=15:=by omega
   have e16:¬op=16:=by omega
   simp only [genS,e14,e15,e16,if_false] at hp ⊢
   exact ok_vec hE hv hp hT
theorem ok_list (hE:E.Ok){T G:Nat}(hT:T<=len)(hG:G<=len):∀ (l:List Stmt) (deep p:Nat),GoodL E deep l->p+(genL E T G deep p l).length<=len->okC len (genL E T G deep p l)
 |[],_,_,_,_=>by unfold genL;exact .nil _
 |s :: l,deep,p,hs,hp=>by
  unfold GoodL at hs
  simp only [genL] at hp ⊢
  simp at hp
  exact (ok_stmt hE hT hG s deep p hs.1 (by omega)).append (ok_list hE hT hG l deep _ hs.2 (by omega))
end
theorem ok_prog (hE:E.Ok){body:List Stmt}{T G:Nat}(hg:GoodL E 0 body)(hT:T<=(progC E body T G).length)(hG:G<=(progC E body T G).length):okC (progC E body T G).length (progC E body T G):=by
 generalize hn:(progC E body T G).length=n at *
 unfold progC at hn ⊢
 have hlen:bodyP body+(genL E T G 0 (bodyP body) body).length<=n:=by
  rw [<-hn];simp [bodyP];split<;> simp [beginC]<;> omega
 refine okC.append ?_ (okC.append (ok_list hE hT hG body 0 _ hg hlen) (.cons (ok_halt (by decide)) (okC.append ?_ ?_)))
 ·split
  ·exact .nil _
  ·exact .cons (ok_const (by decide)) (.cons (ok_const (by decide)) (.cons (ok_const (by decide)) (.cons (ok_const (by decide)) (.nil _))))
 ·split
  ·exact .cons (ok_halt (by decide)) (.nil _)
  ·exact .nil _
 ·split
  ·exact .cons (ok_halt (by decide)) (.nil _)
  ·exact .nil _
end
end Go.Proofs.YtkplfaionpplaaaGreatDoor.Al
