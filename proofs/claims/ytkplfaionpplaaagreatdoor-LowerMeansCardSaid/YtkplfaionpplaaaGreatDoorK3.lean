/- Part 3: P11, P12, P13, P14, P15, P16. -/
import Derived.Test.YtkplfaionpplaaaGreatDoorK2
set_option linter.unusedVariables false
set_option linter.unusedSimpArgs false
namespace Go.Proofs.YtkplfaionpplaaaGreatDoor.Al
def vecC (E:Env)(p T:Nat)(s:Stmt):List CI:=
 let d:=s.d.toNat;let a:=s.a.toNat;let b:=s.b.toNat;let e:=s.c.toNat;let K:=s.k.toNat
 if s.op=1 then eachC E.n p (zeroB E d) else
 if s.op=2\/s.op=12 then eachC E.n p (copyB E d a) else
 if s.op=3 then eachC E.n p (addB E d a b) else
 if s.op=4 then eachC E.n p (subB E d a b) else
 if s.op=5 then eachC E.n p (mulB E d a b) else
 if s.op=6 then ci 1 21 0 0 0 s.k :: eachC E.n (p+1) (scaleB E d a) else
 if s.op=7 then ci 1 21 0 0 0 (overC E) :: (eachC E.n (p+1) (convB E (p+2) a b)++eachC E.n (p+36) (conv2B E d)) else
 if s.op=8 then ci 1 21 0 0 0 (((E.q:Int) - 1) / 2) :: ci 1 23 0 0 0 (2 ^ K - 1) :: eachC E.n (p+2) (roundB E d a K) else
 if s.op=9 then ci 1 21 0 0 0 (2 ^ (K - 1)) :: ci 1 23 0 0 0 (2 ^ K - 1) :: eachC E.n (p+2) (expandB E d a K) else
 if s.op=10 then eachC E.n p (pickB E d a b e) else
 if s.op=11 then ci 1 21 0 0 0 s.k :: ci 1 22 0 0 0 1 :: (eachC E.n (p+2) (normB E a)++(eachC E.n (p+12) (zeroB E d)++[ci 16 0 0 22 0 (E.place d:Nat)])) else
 if s.op=13 then ci 1 23 0 0 0 (2 ^ E.bits - 1) :: eachC E.n (p+1) (drawB E (p+2) d T) else []
mutual
def genS (E:Env)(T G:Nat):Nat->Nat->Stmt->List CI
 |deep,p,⟨op,d,a,b,c,k,body,els⟩=>
  if op=14 then
   let x:=genL E T G (deep+1) (p+2) body
   let no:=p+2+x.length+1
   let y:=genL E T G (deep+1) no els
   [ci 15 12 0 0 0 (E.place a.toNat:Nat),ci 18 0 12 0 0 (no:Nat)]++(x++(ci 17 0 0 0 0 ((no+y.length:Nat):Int) :: y))
  else if op=15 then
   ci 1 (2+deep:Nat) 0 0 0 k :: (genL E T G (deep+1) (p+1) body++[(⟨4,(2+deep:Nat),(2+deep:Nat),1,0,0⟩,⟨0,k⟩),ci 19 0 (2+deep:Nat) 0 0 ((p+1:Nat):Int)])
  else if op=16 then
   let x:=genL E T G (deep+1) (p+1) body
   ci 1 (2+deep:Nat) 0 0 0 k :: (x++[ci 15 12 0 0 0 (E.place a.toNat:Nat),ci 19 0 12 0 0 ((p+1+x.length+5:Nat):Int),
    (⟨4,(2+deep:Nat),(2+deep:Nat),1,0,0⟩,⟨0,k⟩),ci 19 0 (2+deep:Nat) 0 0 ((p+1:Nat):Int),ci 17 0 0 0 0 (G:Nat)])
  else vecC E p T ⟨op,d,a,b,c,k,[],[]⟩
def genL (E:Env)(T G:Nat):Nat->Nat->List Stmt->List CI
 |_,_,[]=>[]
 |deep,p,s :: l=>let x:=genS E T G deep p s;x++genL E T G deep (p+x.length) l
end
def isVar (E:Env)(v:Int):Prop:=0<=v/\v<E.nv
structure GoodV (E:Env)(s:Stmt):Prop where
 op:1<=s.op/\s.op<=13
 d:isVar E s.d
 a:s.op≠1->s.op≠13->isVar E s.a
 b:s.op=3\/s.op=4\/s.op=5\/s.op=7\/s.op=10->isVar E s.b
 c:s.op=10->isVar E s.c
 k6:s.op=6->0<=s.k/\s.k<E.q
 k8:s.op=8\/s.op=9->1<=s.k/\s.k<=30/\(2:Int) ^ s.k.toNat<E.q
 k11:s.op=11->0<=s.k/\s.k<=E.q
mutual
def GoodS (E:Env):Nat->Stmt->Prop
 |deep,⟨op,d,a,b,c,k,body,els⟩=>
  deep<=6/\
  (op=14/\isVar E a/\GoodL E (deep+1) body/\GoodL E (deep+1) els\/
   op=15/\1<=k/\k<=50/\GoodL E (deep+1) body\/
   op=16/\1<=k/\k<=50/\isVar E a/\GoodL E (deep+1) body\/
   GoodV E ⟨op,d,a,b,c,k,[],[]⟩)
def GoodL (E:Env):Nat->List Stmt->Prop
 |_,[]=>True
 |deep,s :: l=>GoodS E deep s/\GoodL E deep l
end
def RegFix (E:Env)(r:Nat->Int):Prop:=RegOk E r r
theorem RegOk.fix {E:Env}{r0 r:Nat->Int}(h:RegOk E r0 r):RegFix E r:=⟨h.z,h.o,h.n,h.q,h.m,fun _ _ _=>rfl⟩
def Wd (E:Env):Nat:=16 * E.n * E.n+16384
theorem vmax_le (n:Nat):vmax n+2<=16 * n * n+16384:=by
 unfold vmax
 have h:28 * n<=8 * n * n+28:=by
  rcases Nat.lt_or_ge n 4 with h|h
  ·have:n=0\/n=1\/n=2\/n=3:=by omega
   rcases this with rfl|rfl|rfl|rfl<;> decide
  ·have:=Nat.mul_le_mul_right n (show 32<=8 * n by omega)
   omega
 have e:16 * n * n=8 * n * n+8 * n * n:=by rw [<-Nat.add_mul,<-Nat.add_mul]
 omega
def Cons.andThen (y:Cons)(l:List Leak)(g:List Ev->Nat->Cons):Cons:=
 if y.over then y else { g y.rest y.used with l:=y.l++(l++(g y.rest y.used).l)}
def Post (C:List Ev->Nat->Cons)(E:Env)(q T G deep:Nat)(x y:RS)(ev:List Ev)(r:Nat->Int):Nat->List Leak->Cfg->Prop:=fun n l s=>
 n<=Wd E * (y.steps - x.steps)/\(∀ rest,(y.over=true->rest=[])->C (ev++rest) x.used=⟨l,y.used,rest,y.over⟩)/\
  (y.over=true->s.pc=(if y.code=1 then T else G)/\s.m 1=y.used)/\
  (y.over=false->s.pc=q/\RegFix E s.r/\(∀ j,2<=j->j<2+deep->s.r j=r j)/\MemOk E y.tape y.V y.used s.m)
structure Goes (x y:RS)(ev:List Ev):Prop where
 evs:y.evs=x.evs++ev
 steps:x.steps<=y.steps
 over:y.over=true->y.code=1\/y.code=2
def Sim (c:List CI)(E:Env)(p q T G deep:Nat)(f:RS->RS):Prop:=
 ∃ C:List Ev->Nat->Cons,∀ x:RS,x.over=false->x.code=0->((f x).over=false->(f x).code=0)/\((f x).code≠4->∃ ev,Goes x (f x) ev/\
  ∀ r m,RegFix E r->MemOk E x.tape x.V x.used m->W c E.mem ⟨p,r,m⟩ (Post C E q T G deep x (f x) ev r))
section
variable {c:List CI} {E:Env} {p q T G deep fuel:Nat}
theorem Sim.nil:Sim c E p p T G deep (fun x=>x):=by
 refine⟨fun ev u=>⟨[],u,ev,false⟩,fun x hov hc0=>⟨fun _=>hc0,fun _=>⟨[],⟨by simp,Nat.le_refl _,by simp [hov]⟩,fun r m hr hm=>W.done ⟨by simp,fun rest _=>by simp [hov],by simp [hov],fun _=>⟨rfl,hr,fun _ _ _=>rfl,hm⟩⟩⟩⟩⟩
theorem Sim.seq {q2:Nat}{f g:RS->RS}(hf:Sim c E p q T G deep f)(hg:Sim c E q q2 T G deep g):Sim c E p q2 T G deep (fun x=>if (f x).over then f x else g (f x)):=by
 obtain⟨C1,h1⟩:=hf
 obtain⟨C2,h2⟩:=hg
 refine⟨fun ev u=>(C1 ev u).andThen [] C2,fun x hov hc0=>?_⟩
 obtain⟨h1c,h1⟩:=h1 x hov hc0
 by_cases ho:(f x).over=true
 ·simp only [ho,if_true]
  refine⟨fun h=>by simp at h,fun hne=>?_⟩
  obtain⟨ev,hgo,hw⟩:=h1 hne
  refine⟨ev,hgo,fun r m hr hm=>(hw r m hr hm).mono ?_⟩
  rintro n l s ⟨a,b,d,e⟩
  refine⟨a,fun rest hrest=>?_,d,fun h=>by simp [ho] at h⟩
  show (C1 _ _).andThen [] C2=_
  rw [b rest hrest];simp [Cons.andThen,ho]
 ·have ho':(f x).over=false:=by simpa using ho
  simp only [ho',Bool.false_eq_true,if_false]
  obtain⟨h2c,h2⟩:=h2 (f x) ho' (h1c ho')
  refine⟨h2c,fun hne=>?_⟩
  obtain⟨ev,hgo,hw⟩:=h1 (by rw [h1c ho'];decide)
  obtain⟨ev2,hgo2,hw2⟩:=h2 hne
  refine⟨ev++ev2,⟨by rw [hgo2.evs,hgo.evs,List.append_assoc],Nat.le_trans hgo.steps hgo2.steps,hgo2.over⟩,fun r m hr hm=>W.bind (hw r m hr hm) ?_⟩
  rintro n l ⟨pc,r1,m1⟩ ⟨a,b,d,e⟩
  obtain⟨e1,e2,e3,e4⟩:=e ho'
  dsimp only at e1 e2 e3 e4
  subst e1
  refine W.mono (hw2 r1 m1 e2 e4) ?_
  rintro n2 l2 s2 ⟨a2,b2,d2,e2'⟩
  refine⟨?_,fun rest hrest=>?_,d2,fun h=>?_⟩
  ·have s1:=hgo.steps;have s2:=hgo2.steps
   have:Wd E * ((g (f x)).steps - x.steps)=Wd E * ((f x).steps - x.steps)+Wd E * ((g (f x)).steps - (f x).steps):=by rw [<-Nat.mul_add];congr 1;omega
   omega
  ·show (C1 _ _).andThen [] C2=_
   rw [List.append_assoc,b (ev2++rest) (by simp [ho'])]
   simp only [Cons.andThen,ho',Bool.false_eq_true,if_false]
   rw [b2 rest hrest];simp
  ·obtain⟨f1,f2,f3,f4⟩:=e2' h
   exact⟨f1,f2,fun j hj1 hj2=>(f3 j hj1 hj2).trans (e3 j hj1 hj2),f4⟩
end
section
variable {c:List CI} {E:Env} {p q T G deep fuel:Nat}
theorem vec_len (E:Env)(p T:Nat)(s:Stmt)(h:1<=s.op/\s.op<=12):(vecC E p T s).length=
  if s.op=1 then 5 else if s.op=2\/s.op=12 then 6 else if s.op=3 then 11 else if s.op=4 then 12 else if s.op=5 then 15 else if s.op=6 then 15 else if s.op=7 then 42 else
   if s.op=8 then 17 else if s.op=9 then 12 else if s.op=10 then 10 else 18:=by
 have hcases:s.op=1\/s.op=2\/s.op=3\/s.op=4\/s.op=5\/s.op=6\/s.op=7\/s.op=8\/s.op=9\/s.op=10\/s.op=11\/s.op=12:=by omega
 rcases hcases with h|h|h|h|h|h|h|h|h|h|h|h<;> simp only [vecC,h]<;> rfl
theorem VecOk.as {len d:Nat}{f g:Vs->Nat->Int}(h:VecOk c E p len d f)(e:∀ V,g V=f V):VecOk c E p len d g:=by
 obtain rfl:g=f:=funext e
 exact h
theorem vec_ok (hE:E.Ok){s:Stmt}(hs:GoodV E s)(h12:s.op<=12)(hc:At c p (vecC E p T s)):VecOk c E p (vecC E p T s).length s.d.toNat (stepF E s):=by
 obtain⟨hop,hd,ha,hb,he,k6,k8,k11⟩:=hs
 rw [vec_len E p T s ⟨hop.1,h12⟩]
 have vd:s.d.toNat<E.nv:=by unfold isVar at hd;omega
 have va:s.op≠1->s.a.toNat<E.nv:=fun h=>by have:=ha h (by omega);unfold isVar at this;omega
 have vb:s.op=3\/s.op=4\/s.op=5\/s.op=7\/s.op=10->s.b.toNat<E.nv:=fun h=>by have:=hb h;unfold isVar at this;omega
 have hcases:s.op=1\/s.op=2\/s.op=3\/s.op=4\/s.op=5\/s.op=6\/s.op=7\/s.op=8\/s.op=9\/s.op=10\/s.op=11\/s.op=12:=by omega
 have kk:s.op=8\/s.op=9->1<=s.k.toNat/\s.k.toNat<=30:=fun h=>by have:=k8 h;omega
 rcases hcases with h|h|h|h|h|h|h|h|h|h|h|h<;> simp only [vecC,h] at hc<;> simp at hc<;> simp only [h]<;> simp
 ·refine VecOk.as (zero_vec hE vd hc) ?_;intro V;funext k;simp [stepF,h]
 ·refine VecOk.as (copy_vec hE vd (va (by omega)) hc) ?_;intro V;funext k;simp [stepF,h]
 ·refine VecOk.as (add_vec hE vd (va (by omega)) (vb (by omega)) hc) ?_;intro V;funext k;simp [stepF,h]
 ·refine VecOk.as (sub_vec hE vd (va (by omega)) (vb (by omega)) hc) ?_;intro V;funext k;simp [stepF,h]
 ·refine VecOk.as (mul_vec hE vd (va (by omega)) (vb (by omega)) hc) ?_;intro V;funext k;simp [stepF,h]
 ·refine VecOk.as (scale_vec hE vd (va (by omega)) (k6 h) hc) ?_;intro V;funext k;simp [stepF,h]
 ·refine VecOk.as (conv_vec hE vd (va (by omega)) (vb (by omega)) hc) ?_;intro V;funext k;simp [stepF,h]
 ·refine VecOk.as (round_vec hE vd (va (by omega)) (kk (by omega)) (k8 (by omega)).2.2 hc) ?_;intro V;funext k;simp [stepF,h]
 ·refine VecOk.as (expand_vec hE vd (va (by omega)) (kk (by omega)) (k8 (by omega)).2.2 hc) ?_;intro V;funext k;simp [stepF,h]
 ·refine VecOk.as (pick_vec hE vd (va (by omega)) (vb (by omega)) (by have:=he h;unfold isVar at this;omega) hc) ?_;intro V;funext k;simp [stepF,h]
 ·refine VecOk.as (norm_vec hE vd (va (by omega)) (k11 h) hc) ?_;intro V;funext k;simp [stepF,h]
 ·refine VecOk.as (copy_vec hE vd (va (by omega)) hc) ?_;intro V;funext k;simp [stepF,h]
theorem nn_wd (E:Env):vmax E.n+2<=Wd E:=vmax_le E.n
theorem wd_le (E:Env):16384<=Wd E:=by unfold Wd;omega
theorem vec_sim (hE:E.Ok)(hdeep:deep<=6){s:Stmt}(hs:GoodV E s)(h12:s.op<=12)(hc:At c p (vecC E p T s)):
  Sim c E p (p+(vecC E p T s).length) T G deep (fun x=>x.stepThen fuel fun x=>
   let f:=stepF E s x.V
   let x:={ x with V:=setV x.V s.d.toNat f}
   if s.op=12 then { x with evs:=x.evs++[⟨1,false,vecOf E f⟩]} else x):=by
 obtain⟨N,L,hN,h⟩:=vec_ok hE hs h12 hc
 have hW:=nn_wd E
 refine⟨fun ev u=>⟨L,u,if s.op=12 then ev.tail else ev,false⟩,fun x hov hc0=>?_⟩
 unfold RS.stepThen
 by_cases hst:x.steps>=fuel
 ·simp only [if_pos hst,RS.fin];simp
 ·simp only [if_neg hst]
  refine⟨fun _=>by split<;> exact hc0,fun _=>⟨if s.op=12 then [⟨1,false,vecOf E (stepF E s x.V)⟩] else [],⟨?_,?_,?_⟩,fun r m hr hm=>?_⟩⟩
  ·split<;> simp
  ·split<;> simp
  ·split<;> simp [hov]
  ·refine W.mono (h r r m x.tape x.V x.used hr hm) ?_
   rintro _ _ s' ⟨rfl,rfl,e3,e4,e5⟩
   refine⟨?_,fun rest hrest=>?_,?_,fun _=>⟨e3,e4.fix,fun j h1 h2=>?_,?_⟩⟩
   ·split<;> simp<;> omega
   ·split<;> simp [hov]
   ·split<;> simp [hov]
   ·exact e4.cs j h1 (by omega)
   ·split<;> exact e5
theorem drawGo_code {d:Nat}:∀ (l:List Int) (i:Nat) (f:Nat->Int) (x:RS),x.code=0->(drawGo E fuel d l i f x).over=false->(drawGo E fuel d l i f x).code=0:=by
 intro l
 induction l with
 |nil=>intro i f x h;unfold drawGo;split<;> simp [RS.fin,h]
 |cons t rest ih=>
  intro i f x h
  unfold drawGo RS.stepThen
  repeat' split
  ·simp [RS.fin]
  ·simp only
   split
   ·exact ih _ _ _ h
   ·exact ih _ _ _ h
  ·intro _;exact h
theorem draw_stmt (hE:E.Ok)(hdeep:deep<=6){d:Nat}(hd:d<E.nv)(hc:At c p (ci 1 23 0 0 0 (2 ^ E.bits - 1) :: eachC E.n (p+1) (drawB E (p+2) d T))):
  Sim c E p (p+16) T G deep (fun x=>x.stepThen fuel fun x=>drawGo E fuel d (x.tape.drop x.used) 0 (fun _=>0) x):=by
 have hW:=wd_le E
 have hc2:At c (p+2) (drawB E (p+2) d T++[upC E.n 9,ci 13 16 9 10 0 0,ci 19 0 16 0 0 ((p+2:Nat):Int)]):=hc.tail.tail
 have b1:=hE.b1;have b2:=hE.b2;have q0:=hE.q0
 have p24:(2:Int) ^ E.bits<=16777216:=by
  have h1:(2:Nat) ^ E.bits<=2 ^ 24:=Nat.pow_le_pow_right (by decide) b1
  have h3:(2:Nat) ^ 24=16777216:=by decide
  have c1:((2:Int) ^ E.bits)=((2 ^ E.bits:Nat):Int):=by simp
  omega
 refine⟨fun ev u=>{ drawC E (p+2) d ev 0 u with l:=⟨1,p⟩ :: ⟨1,(p+1:Nat)⟩ :: (drawC E (p+2) d ev 0 u).l},fun x hov hc0=>?_⟩
 unfold RS.stepThen
 by_cases hst:x.steps>=fuel
 ·simp only [if_pos hst,RS.fin];simp
 ·simp only [if_neg hst]
  refine⟨fun ho=>?_,fun hne=>?_⟩
  ·exact drawGo_code _ _ _ _ hc0 ho
  ·obtain⟨ev,e1,e2,e3,e4⟩:=draw_sim (fuel:=fuel) hE hd hc2 _ 0 (fun _=>0) ⟨x.tape,x.V,x.used,x.steps+1,x.evs,x.over,x.code⟩ (by have:=hE.n0;omega) rfl hov hne
   refine⟨ev,⟨e1,by simp only at e2;omega,fun h=> .inl (e3 h)⟩,fun r m hr hm=>?_⟩
   refine W.const hc (by omega) (by omega) fun h=>?_
   refine W.const h (by decide) (by decide) fun _=>?_
   refine W.mono (e4 r _ m ((RegOk.upd (RegOk.upd hr _ _ (by decide)) _ _ (by decide))) (by simp [upd]) (by simp [upd]) (by simpa [partV_zero] using hm) (fun k hk=>by omega)) ?_
   rintro n l s ⟨g1,g2,g3,g4⟩
   refine⟨?_,fun rest hrest=>?_,fun h=>?_,fun h=>?_⟩
   ·simp only at g1 e2 ⊢
    generalize (drawGo E fuel d (List.drop x.used x.tape) 0 (fun x=>0) ⟨x.tape,x.V,x.used,x.steps+1,x.evs,x.over,x.code⟩).steps=t at *
    have:Wd E * (t - x.steps)=Wd E+Wd E * (t - (x.steps+1)):=by rw [show t - x.steps=1+(t - (x.steps+1)) from by omega,Nat.mul_add,Nat.mul_one]
    have h2:=Nat.mul_le_mul_right (t - (x.steps+1)) (show 20<=Wd E by omega)
    omega
   ·have:=g2 rest hrest
    simp only at this ⊢
    rw [this]
   ·obtain⟨h1,h2⟩:=g3 h
    rw [if_pos (e3 h)]
    exact⟨h1,h2⟩
   ·obtain⟨h1,h2,h3⟩:=g4 h
    exact⟨h1,h2.fix,fun j hj hj2=>h2.cs j hj (by omega),h3⟩
end
theorem Sim.congr {c:List CI}{E:Env}{p q T G deep:Nat}{f g:RS->RS}(h:Sim c E p q T G deep f)(e:∀ x,x.over=false->g x=f x):Sim c E p q T G deep g:=by
 obtain⟨C,h⟩:=h
 exact⟨C,fun x hov hc=>by rw [e x hov];exact h x hov hc⟩
section
variable {c:List CI} {E:Env} {p T G deep fuel:Nat}
theorem wd_step {W a b:Nat}(h:a+1<=b):W+W * (b - (a+1))=W * (b - a):=by
 rw [show b - a=1+(b - (a+1)) from by omega,Nat.mul_add,Nat.mul_one]
theorem Sim.cond (hE:E.Ok)(hdeep:deep<=6){a no fin:Nat}{fb fe:RS->RS}{X Y:List CI}(ha:a<E.nv)
  (hc:At c p ([ci 15 12 0 0 0 (E.place a:Nat),ci 18 0 12 0 0 (no:Nat)]++(X++(ci 17 0 0 0 0 (fin:Nat) :: Y))))
  (hb:Sim c E (p+2) (p+2+X.length) T G (deep+1) fb) (he:Sim c E no fin T G (deep+1) fe):
  Sim c E p fin T G deep (fun x=>x.stepThen fuel fun x=>
   let yes:=decide (x.V a 0≠0)
   let x:={ x with evs:=x.evs++[⟨3,yes,[]⟩]}
   if yes then fb x else fe x):=by
 have hW:=wd_le E;have n0:=hE.n0;have hM:=hE.mem_le
 have hp:=Env.place_lt (E:=E) ha (show 0<E.n by omega)
 have hbr:At c (p+2+X.length) _:=hc.right.right
 obtain⟨Cb,hb⟩:=hb
 obtain⟨Ce,he⟩:=he
 let pre:List Leak:=[⟨1,p⟩,⟨3,(E.place a:Nat)⟩,⟨1,(p+1:Nat)⟩]
 refine⟨fun ev u=>match ev with
  |[]=>⟨[],u,[],true⟩
  |e :: rest=>if e.yes then (let y:=Cb rest u;{ y with l:=pre++(⟨2,0⟩ :: (if y.over then y.l else y.l++[⟨1,(p+2+X.length:Nat)⟩]))}) else (let y:=Ce rest u;{ y with l:=pre++(⟨2,1⟩ :: y.l)}),fun x hov hc0=>?_⟩
 unfold RS.stepThen
 by_cases hst:x.steps>=fuel
 ·simp only [if_pos hst,RS.fin];simp
 ·simp only [if_neg hst]
  by_cases hy:x.V a 0≠0
  ·have e:decide (x.V a 0≠0)=true:=decide_eq_true hy
   simp only [e,if_true]
   obtain⟨h1,h2⟩:=hb ⟨x.tape,x.V,x.used,x.steps+1,x.evs++[⟨3,true,[]⟩],x.over,x.code⟩ hov hc0
   refine⟨h1,fun hne=>?_⟩
   obtain⟨ev,hgo,hw⟩:=h2 hne
   generalize hyy:fb ⟨x.tape,x.V,x.used,x.steps+1,x.evs++[⟨3,true,[]⟩],x.over,x.code⟩=y at *
   refine⟨⟨3,true,[]⟩ :: ev,⟨by rw [hgo.evs];simp,by have:=hgo.steps;simp only at this;omega,hgo.over⟩,fun r m hr hm=>?_⟩
   have hst1:x.steps+1<=y.steps:=hgo.steps
   refine W.ld (E.place a) hc (by show r 0+_=_;rw [RegOk.z hr];omega) (by unfold Env.mem Env.scratch;omega) hM fun h=>?_
   have hv:m (E.place a)=x.V a 0:=by have:=hm.mv a 0 ha (by omega);simpa using this
   refine W.bz_no h (by simp [upd,hv];exact hy) fun _=>?_
   refine W.bind (hw _ m (RegOk.fix (RegOk.upd hr _ _ (by decide))) hm) ?_
   rintro n l ⟨pc,r1,m1⟩ ⟨g1,g2,g3,g4⟩
   dsimp only at g1 g2 g3 g4
   by_cases ho:y.over=true
   ·refine W.done ⟨?_,fun rest hrest=>?_,fun _=>g3 ho,fun h=>by simp [ho] at h⟩
    ·have:=wd_step (W:=Wd E) hst1;omega
    ·show _=_
     simp only [List.cons_append,if_true]
     rw [g2 rest hrest]
     simp [ho,pre]
   ·have ho':y.over=false:=by simpa using ho
    obtain⟨k1,k2,k3,k4⟩:=g4 ho'
    subst k1
    refine W.br fin hbr rfl (W.done ⟨?_,fun rest hrest=>?_,fun h=>by simp [ho'] at h,fun _=>⟨rfl,k2,fun j h1 h2=>?_,k4⟩⟩)
    ·have:=wd_step (W:=Wd E) hst1;omega
    ·simp only [List.cons_append,if_true]
     rw [g2 rest (by simp [ho'])]
     simp [ho',pre]
    ·show r1 j=r j
     rw [k3 j h1 (by omega)]
     exact upd_ne _ _ _ _ (by show j≠12;omega)
  ·have hy0:x.V a 0=0:=by simpa using hy
   obtain⟨h1,h2⟩:=he ⟨x.tape,x.V,x.used,x.steps+1,x.evs++[⟨3,false,[]⟩],x.over,x.code⟩ hov hc0
   have e:decide (x.V a 0≠0)=false:=decide_eq_false hy
   simp only [e,Bool.false_eq_true,if_false]
   refine⟨h1,fun hne=>?_⟩
   obtain⟨ev,hgo,hw⟩:=h2 hne
   generalize hyy:fe ⟨x.tape,x.V,x.used,x.steps+1,x.evs++[⟨3,false,[]⟩],x.over,x.code⟩=y at *
   refine⟨⟨3,false,[]⟩ :: ev,⟨by rw [hgo.evs];simp,by have:=hgo.steps;simp only at this;omega,hgo.over⟩,fun r m hr hm=>?_⟩
   have hst1:x.steps+1<=y.steps:=hgo.steps
   refine W.ld (E.place a) hc (by show r 0+_=_;rw [RegOk.z hr];omega) (by unfold Env.mem Env.scratch;omega) hM fun h=>?_
   have hv:m (E.place a)=x.V a 0:=by have:=hm.mv a 0 ha (by omega);simpa using this
   refine W.bz_go no h (by simp [upd,hv,hy0]) rfl ?_
   refine W.mono (hw _ m (RegOk.fix (RegOk.upd hr _ _ (by decide))) hm) ?_
   rintro n l s ⟨g1,g2,g3,g4⟩
   dsimp only at g1 g2 g3 g4
   refine⟨?_,fun rest hrest=>?_,g3,fun h=>?_⟩
   ·have:=wd_step (W:=Wd E) hst1;omega
   ·simp only [List.cons_append]
    simp only [Bool.false_eq_true,if_false]
    rw [g2 rest hrest]
    simp [pre]
   ·obtain⟨k1,k2,k3,k4⟩:=g4 h
    refine⟨k1,k2,fun j h1 h2=>?_,k4⟩
    rw [k3 j h1 (by omega)]
    exact upd_ne _ _ _ _ (by show j≠12;omega)
theorem RegFix.updc {r:Nat->Int}(h:RegFix E r)(j:Nat)(v:Int)(hj:2<=j/\j<10\/11<=j/\j<19\/21<=j):RegFix E (upd r j v):=by
 obtain⟨a,b,c,d,e,f⟩:=h
 refine⟨?_,?_,?_,?_,?_,fun i h2 h9=>rfl⟩
 all_goals rw [upd_ne _ _ _ _ (by omega)]
 all_goals assumption
def TPost (C:List Ev->Nat->Cons)(E:Env)(q T G deep t:Nat)(x y:RS)(ev:List Ev)(r:Nat->Int):Nat->List Leak->Cfg->Prop:=fun n l s=>
 n<=Wd E * (y.steps - x.steps)+t/\(∀ rest,(y.over=true->rest=[])->C (ev++rest) x.used=⟨l,y.used,rest,y.over⟩)/\
  (y.over=true->s.pc=(if y.code=1 then T else G)/\s.m 1=y.used)/\
  (y.over=false->s.pc=q/\RegFix E s.r/\(∀ j,2<=j->j<2+deep->s.r j=r j)/\MemOk E y.tape y.V y.used s.m)
theorem times_rounds (hdeep:deep<=6){K:Int}(hK:K<=50){X:List CI}{f:RS->RS}
  (hc:At c (p+1+X.length) [(⟨4,(2+deep:Nat),(2+deep:Nat),1,0,0⟩,⟨0,K⟩),ci 19 0 (2+deep:Nat) 0 0 ((p+1:Nat):Int)])
  (hb:Sim c E (p+1) (p+1+X.length) T G (deep+1) f):∀ k:Nat,1<=k->(k:Int)<=K->
  ∃ C:List Ev->Nat->Cons,∀ x:RS,x.over=false->x.code=0->((timesN f k x).over=false->(timesN f k x).code=0)/\((timesN f k x).code≠4->∃ ev,Goes x (timesN f k x) ev/\
   ∀ r m,RegFix E r->r (2+deep)=k->MemOk E x.tape x.V x.used m->W c E.mem ⟨p+1,r,m⟩ (TPost C E (p+1+X.length+2) T G deep (2 * k) x (timesN f k x) ev r)):=by
 obtain⟨Cb,hb⟩:=hb
 intro k hk1
 induction k with
 |zero=>omega
 |succ k ih=>
  intro hkK
  by_cases hk0:k=0
  ·subst hk0
   refine⟨fun ev u=>if (Cb ev u).over then Cb ev u else { Cb ev u with l:=(Cb ev u).l++[⟨1,(p+1+X.length:Nat)⟩,⟨1,(p+1+X.length+1:Nat)⟩,⟨2,0⟩]},fun x hov hc0=>?_⟩
   have e:timesN f (0+1) x=f x:=by simp [timesN,hov]
   rw [e]
   obtain⟨h1,h2⟩:=hb x hov hc0
   refine⟨h1,fun hne=>?_⟩
   obtain⟨ev,hgo,hw⟩:=h2 hne
   refine⟨ev,hgo,fun r m hr hcnt hm=>W.bind (hw r m hr hm) ?_⟩
   rintro n l ⟨pc,r1,m1⟩ ⟨g1,g2,g3,g4⟩
   dsimp only at g1 g2 g3 g4
   by_cases ho:(f x).over=true
   ·refine W.done ⟨by omega,fun rest hrest=>?_,fun _=>g3 ho,fun h=>by simp [ho] at h⟩
    dsimp only
    rw [g2 rest hrest];simp [ho]
   ·have ho':(f x).over=false:=by simpa using ho
    obtain⟨k1,k2,k3,k4⟩:=g4 ho'
    subst k1
    have hcn:r1 (2+deep)=1:=by rw [k3 _ (by omega) (by omega),hcnt];rfl
    refine W.sub 1 1 hc (by rw [Int.toNat_natCast];exact hcn) (RegOk.o k2) (by omega) (by omega) (by omega) (by omega) (by omega) (by omega) fun h=>?_
    simp only [Int.toNat_natCast]
    refine W.bnz_no h (by rw [Int.toNat_natCast,upd_same];decide) fun _=>W.done ⟨by omega,fun rest hrest=>?_,fun h=>by simp [ho'] at h,fun _=>⟨rfl,k2.updc _ _ (by omega),fun j h1 h2=>?_,k4⟩⟩
    ·dsimp only
     rw [g2 rest (by simp [ho'])];simp [ho']
    ·show upd r1 _ _ j=_
     rw [upd_ne _ _ _ _ (by omega),k3 j h1 (by omega)]
  ·obtain⟨C,ih⟩:=ih (by omega) (by omega)
   refine⟨fun ev u=>(Cb ev u).andThen [⟨1,(p+1+X.length:Nat)⟩,⟨1,(p+1+X.length+1:Nat)⟩,⟨2,1⟩] C,fun x hov hc0=>?_⟩
   obtain⟨h1,h2⟩:=hb x hov hc0
   by_cases ho:(f x).over=true
   ·have e:timesN f (k+1) x=f x:=by
     obtain⟨j,rfl⟩:∃ j,k=j+1:=⟨k - 1,by omega⟩
     simp [timesN,hov,ho]
    rw [e]
    refine⟨h1,fun hne=>?_⟩
    obtain⟨ev,hgo,hw⟩:=h2 hne
    refine⟨ev,hgo,fun r m hr hcnt hm=>(hw r m hr hm).mono ?_⟩
    rintro n l s ⟨g1,g2,g3,g4⟩
    refine⟨by omega,fun rest hrest=>?_,fun _=>g3 ho,fun h=>by simp [ho] at h⟩
    dsimp only
    rw [g2 rest hrest];simp [Cons.andThen,ho]
   ·have ho':(f x).over=false:=by simpa using ho
    have e:timesN f (k+1) x=timesN f k (f x):=by simp [timesN,hov]
    rw [e]
    obtain⟨i1,i2⟩:=ih (f x) ho' (h1 ho')
    refine⟨i1,fun hne=>?_⟩
    obtain⟨ev,hgo,hw⟩:=h2 (by rw [h1 ho'];decide)
    obtain⟨ev2,hgo2,hw2⟩:=i2 hne
    refine⟨ev++ev2,⟨by rw [hgo2.evs,hgo.evs,List.append_assoc],Nat.le_trans hgo.steps hgo2.steps,hgo2.over⟩,fun r m hr hcnt hm=>W.bind (hw r m hr hm) ?_⟩
    rintro n l ⟨pc,r1,m1⟩ ⟨g1,g2,g3,g4⟩
    dsimp only at g1 g2 g3 g4
    obtain⟨k1,k2,k3,k4⟩:=g4 ho'
    subst k1
    have hcn:r1 (2+deep)=(k:Int)+1:=by rw [k3 _ (by omega) (by omega),hcnt];omega
    refine W.sub ((k:Int)+1) 1 hc (by rw [Int.toNat_natCast];exact hcn) (RegOk.o k2) (by omega) (by omega) (by omega) (by omega) (by omega) (by omega) fun h=>?_
    rw [wrapU_id (by omega) (by omega)]
    simp only [Int.toNat_natCast]
    refine W.bnz_go (p+1) h (by rw [Int.toNat_natCast,upd_same];omega) rfl ?_
    refine W.mono (hw2 _ m1 (k2.updc _ _ (by omega)) (by rw [upd_same];omega) k4) ?_
    rintro n2 l2 s2 ⟨a2,b2,d2,e2⟩
    refine⟨?_,fun rest hrest=>?_,d2,fun h=>?_⟩
    ·have s1:=hgo.steps;have s2:=hgo2.steps
     have:Wd E * ((timesN f k (f x)).steps - x.steps)=Wd E * ((f x).steps - x.steps)+Wd E * ((timesN f k (f x)).steps - (f x).steps):=by rw [<-Nat.mul_add];congr 1;omega
     omega
    ·dsimp only
     rw [List.append_assoc,g2 (ev2++rest) (by simp [ho'])]
     simp only [Cons.andThen,ho',Bool.false_eq_true,if_false]
     rw [b2 rest hrest];simp
    ·obtain⟨f1,f2,f3,f4⟩:=e2 h
     refine⟨f1,f2,fun j hj1 hj2=>?_,f4⟩
     rw [f3 j hj1 hj2,upd_ne _ _ _ _ (by omega),k3 j hj1 (by omega)]
theorem Sim.times (hdeep:deep<=6){K:Int}(hK:1<=K/\K<=50){X:List CI}{f:RS->RS}
  (hc:At c p (ci 1 (2+deep:Nat) 0 0 0 K :: (X++[(⟨4,(2+deep:Nat),(2+deep:Nat),1,0,0⟩,⟨0,K⟩),ci 19 0 (2+deep:Nat) 0 0 ((p+1:Nat):Int)])))
  (hb:Sim c E (p+1) (p+1+X.length) T G (deep+1) f):
  Sim c E p (p+1+X.length+2) T G deep (fun x=>x.stepThen fuel fun x=>timesN f K.toNat x):=by
 have hW:=wd_le E
 obtain⟨C,h⟩:=times_rounds hdeep hK.2 hc.tail.right hb K.toNat (by omega) (by omega)
 refine⟨fun ev u=>{ C ev u with l:=⟨1,p⟩ :: (C ev u).l},fun x hov hc0=>?_⟩
 unfold RS.stepThen
 by_cases hst:x.steps>=fuel
 ·simp only [if_pos hst,RS.fin];simp
 ·simp only [if_neg hst]
  obtain⟨h1,h2⟩:=h ⟨x.tape,x.V,x.used,x.steps+1,x.evs,x.over,x.code⟩ hov hc0
  refine⟨h1,fun hne=>?_⟩
  obtain⟨ev,hgo,hw⟩:=h2 hne
  generalize hyy:timesN f K.toNat ⟨x.tape,x.V,x.used,x.steps+1,x.evs,x.over,x.code⟩=y at *
  have hst1:x.steps+1<=y.steps:=hgo.steps
  refine⟨ev,⟨hgo.evs,by omega,hgo.over⟩,fun r m hr hm=>?_⟩
  refine W.const hc (by omega) (by omega) fun _=>?_
  simp only [Int.toNat_natCast]
  refine W.mono (hw _ m (RegFix.updc hr _ _ (by omega)) (by rw [upd_same];omega) hm) ?_
  rintro n l s ⟨g1,g2,g3,g4⟩
  dsimp only at g1 g2 g3 g4
  refine⟨?_,fun rest hrest=>?_,g3,fun h=>?_⟩
  ·have:=wd_step (W:=Wd E) hst1;omega
  ·dsimp only
   rw [g2 rest hrest]
  ·obtain⟨k1,k2,k3,k4⟩:=g4 h
   exact⟨k1,k2,fun j h1 h2=>by rw [k3 j h1 h2,upd_ne _ _ _ _ (by omega)],k4⟩
end
section
variable {c:List CI} {E:Env} {p T G deep fuel:Nat}
def UPost (C:List Ev->Nat->Cons)(E:Env)(q T G deep:Nat)(x y:RS)(ev:List Ev)(r:Nat->Int):Nat->List Leak->Cfg->Prop:=fun n l s=>
 n+1<=Wd E * (y.steps - x.steps)/\(∀ rest,(y.over=true->rest=[])->C (ev++rest) x.used=⟨l,y.used,rest,y.over⟩)/\
  (y.over=true->s.pc=(if y.code=1 then T else G)/\s.m 1=y.used)/\
  (y.over=false->s.pc=q/\RegFix E s.r/\(∀ j,2<=j->j<2+deep->s.r j=r j)/\MemOk E y.tape y.V y.used s.m)
def untilT (fuel a:Nat)(f:RS->RS)(k:Nat)(y:RS):RS:=
 if y.over then y else
  if decide (y.V a 0≠0) then { y with evs:=y.evs++[⟨3,true,[]⟩]} else untilN fuel a f k { y with evs:=y.evs++[⟨3,false,[]⟩]}
theorem untilN_succ (fuel a:Nat)(f:RS->RS)(k:Nat)(x:RS):untilN fuel a f (k+1) x=x.stepThen fuel (fun x=>untilT fuel a f k (f x)):=by
 simp only [untilN,untilT]
 congr 1
 funext x
 by_cases h:(f x).V a 0≠0
 ·simp [h]
 ·simp only [decide_eq_false h];simp
theorem until_rounds (hE:E.Ok)(hdeep:deep<=6){K:Int}(hK:K<=50){a out:Nat}(ha:a<E.nv){X:List CI}{f:RS->RS}(hout:out=p+1+X.length+5)
  (hc:At c (p+1+X.length) [ci 15 12 0 0 0 (E.place a:Nat),ci 19 0 12 0 0 (out:Nat),(⟨4,(2+deep:Nat),(2+deep:Nat),1,0,0⟩,⟨0,K⟩),ci 19 0 (2+deep:Nat) 0 0 ((p+1:Nat):Int),ci 17 0 0 0 0 (G:Nat)])
  (hb:Sim c E (p+1) (p+1+X.length) T G (deep+1) f):∀ k:Nat,1<=k->(k:Int)<=K->
  ∃ C:List Ev->Nat->Cons,∀ x:RS,x.over=false->x.code=0->((untilN fuel a f k x).over=false->(untilN fuel a f k x).code=0)/\((untilN fuel a f k x).code≠4->∃ ev,Goes x (untilN fuel a f k x) ev/\
   ∀ r m,RegFix E r->r (2+deep)=k->MemOk E x.tape x.V x.used m->W c E.mem ⟨p+1,r,m⟩ (UPost C E out T G deep x (untilN fuel a f k x) ev r)):=by
 have hW:=wd_le E;have n0:=hE.n0;have hM:=hE.mem_le
 have hp:=Env.place_lt (E:=E) ha (show 0<E.n by omega)
 obtain⟨Cb,hb⟩:=hb
 intro k hk1
 let b:=p+1+X.length
 let tl:List Leak:=[⟨1,(b:Nat)⟩,⟨3,(E.place a:Nat)⟩,⟨1,(b+1:Nat)⟩]
 induction k with
 |zero=>omega
 |succ k ih=>
  intro hkK
  have next:∃ C:List Ev->Nat->Cons,∀ x:RS,x.over=false->x.code=0->((untilN fuel a f k x).over=false->(untilN fuel a f k x).code=0)/\((untilN fuel a f k x).code≠4->∃ ev,Goes x (untilN fuel a f k x) ev/\
   ∀ r m,RegFix E r->r (2+deep)=(k:Int)+1->MemOk E x.tape x.V x.used m->W c E.mem ⟨b+2,r,m⟩ (fun n l s=>n<=Wd E * ((untilN fuel a f k x).steps - x.steps)+3/\
    (∀ rest,((untilN fuel a f k x).over=true->rest=[])->C (ev++rest) x.used=⟨l,(untilN fuel a f k x).used,rest,(untilN fuel a f k x).over⟩)/\
    ((untilN fuel a f k x).over=true->s.pc=(if (untilN fuel a f k x).code=1 then T else G)/\s.m 1=(untilN fuel a f k x).used)/\
    ((untilN fuel a f k x).over=false->s.pc=out/\RegFix E s.r/\(∀ j,2<=j->j<2+deep->s.r j=r j)/\MemOk E (untilN fuel a f k x).tape (untilN fuel a f k x).V (untilN fuel a f k x).used s.m))):=by
   have hc2:At c (b+2) _:=hc.tail.tail
   by_cases hk0:k=0
   ·subst hk0
    refine⟨fun ev u=>⟨[⟨1,(b+2:Nat)⟩,⟨1,(b+3:Nat)⟩,⟨2,0⟩,⟨1,(b+4:Nat)⟩],u,ev,true⟩,fun x hov hc0=>⟨by simp [untilN,RS.fin],fun _=>⟨[],⟨by simp [untilN,RS.fin],by simp [untilN,RS.fin],by simp [untilN,RS.fin]⟩,fun r m hr hcnt hm=>?_⟩⟩⟩
    refine W.sub 1 1 hc2 (by rw [Int.toNat_natCast];exact hcnt) (RegOk.o hr) (by omega) (by omega) (by omega) (by omega) (by omega) (by omega) fun h=>?_
    simp only [Int.toNat_natCast]
    refine W.bnz_no h (by rw [Int.toNat_natCast,upd_same];decide) fun h=>?_
    refine W.br G h rfl (W.done ⟨by omega,fun rest hrest=>?_,fun _=>⟨by simp [untilN,RS.fin],by simp [untilN,RS.fin,hm.m1]⟩,fun h=>by simp [untilN,RS.fin] at h⟩)
    simp [untilN,RS.fin];omega
   ·obtain⟨C,ih⟩:=ih (by omega) (by omega)
    refine⟨fun ev u=>{ C ev u with l:=⟨1,(b+2:Nat)⟩ :: ⟨1,(b+3:Nat)⟩ :: ⟨2,1⟩ :: (C ev u).l},fun x hov hc0=>?_⟩
    obtain⟨i1,i2⟩:=ih x hov hc0
    refine⟨i1,fun hne=>?_⟩
    obtain⟨ev,hgo,hw⟩:=i2 hne
    refine⟨ev,hgo,fun r m hr hcnt hm=>?_⟩
    refine W.sub ((k:Int)+1) 1 hc2 (by rw [Int.toNat_natCast];exact hcnt) (RegOk.o hr) (by omega) (by omega) (by omega) (by omega) (by omega) (by omega) fun h=>?_
    rw [wrapU_id (by omega) (by omega)]
    simp only [Int.toNat_natCast]
    refine W.bnz_go (p+1) h (by rw [Int.toNat_natCast,upd_same];omega) rfl ?_
    refine W.mono (hw _ m (RegFix.updc hr _ _ (by omega)) (by rw [upd_same];omega) hm) ?_
    rintro n l s ⟨g1,g2,g3,g4⟩
    refine⟨by omega,fun rest hrest=>?_,g3,fun h=>?_⟩
    ·rw [g2 rest hrest]
    ·obtain⟨f1,f2,f3,f4⟩:=g4 h
     exact⟨f1,f2,fun j h1 h2=>by rw [f3 j h1 h2,upd_ne _ _ _ _ (by omega)],f4⟩
  obtain⟨Cn,next⟩:=next
  refine⟨fun ev u=>if (Cb ev u).over then Cb ev u else match (Cb ev u).rest with
   |[]=>⟨[],0,[],true⟩
   |e :: rest=>if e.yes then ⟨(Cb ev u).l++(tl++[⟨2,1⟩]),(Cb ev u).used,rest,false⟩ else { Cn rest (Cb ev u).used with l:=(Cb ev u).l++(tl++(⟨2,0⟩ :: (Cn rest (Cb ev u).used).l))},fun x hov hc0=>?_⟩
  rw [untilN_succ]
  unfold RS.stepThen
  by_cases hst:x.steps>=fuel
  ·simp only [if_pos hst,RS.fin];simp
  ·simp only [if_neg hst]
   obtain⟨h1,h2⟩:=hb ⟨x.tape,x.V,x.used,x.steps+1,x.evs,x.over,x.code⟩ hov hc0
   generalize hyy:f ⟨x.tape,x.V,x.used,x.steps+1,x.evs,x.over,x.code⟩=y at *
   unfold untilT
   by_cases ho:y.over=true
   ·simp only [ho,if_true]
    refine⟨fun h=>by simp at h,fun hne=>?_⟩
    obtain⟨ev,hgo,hw⟩:=h2 hne
    have hst1:x.steps+1<=y.steps:=hgo.steps
    refine⟨ev,⟨hgo.evs,by omega,hgo.over⟩,fun r m hr hcnt hm=>(hw r m hr hm).mono ?_⟩
    rintro n l s ⟨g1,g2,g3,g4⟩
    refine⟨?_,fun rest hrest=>?_,fun _=>g3 ho,fun h=>by simp [ho] at h⟩
    ·have:=wd_step (W:=Wd E) hst1;simp only at g1;omega
    ·have:=g2 rest hrest
     simp only at this ⊢
     rw [this];simp [ho]
   ·have ho':y.over=false:=by simpa using ho
    simp only [ho',Bool.false_eq_true,if_false]
    obtain⟨ev,hgo,hw⟩:=h2 (by rw [h1 ho'];decide)
    have hst1:x.steps+1<=y.steps:=hgo.steps
    have hvr:∀ m,MemOk E y.tape y.V y.used m->m (E.place a)=y.V a 0:=fun m hm=>by have:=hm.mv a 0 ha (by omega);simpa using this
    by_cases hy:y.V a 0≠0
    ·rw [decide_eq_true hy]
     simp only [if_true]
     refine⟨fun _=>h1 ho',fun _=>⟨ev++[⟨3,true,[]⟩],⟨by rw [<-List.append_assoc,<-hgo.evs],by simp only;omega,fun h=>by simp at h⟩,fun r m hr hcnt hm=>W.bind (hw r m hr hm) ?_⟩⟩
     rintro n l ⟨pc,r1,m1⟩ ⟨g1,g2,g3,g4⟩
     dsimp only at g1 g2 g3 g4
     obtain⟨k1,k2,k3,k4⟩:=g4 ho'
     subst k1
     refine W.ld (E.place a) hc (by show r1 0+_=_;rw [RegOk.z k2];omega) (by unfold Env.mem Env.scratch;omega) hM fun h=>?_
     refine W.bnz_go out h (by simp [upd,hvr _ k4];exact hy) rfl (W.done ⟨?_,fun rest hrest=>?_,fun h=>by simp [ho'] at h,fun _=>⟨rfl,k2.updc _ _ (by decide),fun j h1 h2=>?_,k4⟩⟩)
     ·have:=wd_step (W:=Wd E) hst1;simp only;omega
     ·dsimp only
      rw [List.append_assoc,g2 ([(⟨3,true,[]⟩:Ev)]++rest) (by simp [ho'])]
      simp [ho',tl,b]
     ·show upd r1 12 _ j=r j
      rw [upd_ne _ _ _ _ (by omega),k3 j h1 (by omega)]
    ·rw [decide_eq_false hy]
     simp only [Bool.false_eq_true,if_false]
     have hy0:y.V a 0=0:=by simpa using hy
     obtain⟨n1,n2⟩:=next ⟨y.tape,y.V,y.used,y.steps,y.evs++[⟨3,false,[]⟩],y.over,y.code⟩ ho' (h1 ho')
     generalize hzz:untilN fuel a f k ⟨y.tape,y.V,y.used,y.steps,y.evs++[⟨3,false,[]⟩],y.over,y.code⟩=z at *
     simp only [ho'] at hzz
     rw [hzz]
     refine⟨n1,fun hne=>?_⟩
     obtain⟨ev2,hgo2,hw2⟩:=n2 hne
     have hst2:y.steps<=z.steps:=hgo2.steps
     refine⟨ev++(⟨3,false,[]⟩ :: ev2),⟨by rw [hgo2.evs,hgo.evs];simp,by omega,hgo2.over⟩,fun r m hr hcnt hm=>W.bind (hw r m hr hm) ?_⟩
     rintro n l ⟨pc,r1,m1⟩ ⟨g1,g2,g3,g4⟩
     dsimp only at g1 g2 g3 g4
     obtain⟨k1,k2,k3,k4⟩:=g4 ho'
     subst k1
     refine W.ld (E.place a) hc (by show r1 0+_=_;rw [RegOk.z k2];omega) (by unfold Env.mem Env.scratch;omega) hM fun h=>?_
     refine W.bnz_no h (by simp [upd,hvr _ k4,hy0]) fun _=>?_
     refine W.mono (hw2 _ m1 (k2.updc _ _ (by decide)) (by show upd r1 12 _ _=_;rw [upd_ne _ _ _ _ (by omega),k3 _ (by omega) (by omega),hcnt];omega) k4) ?_
     rintro n' l' s ⟨q1,q2,q3,q4⟩
     dsimp only at q1 q2 q3 q4
     refine⟨?_,fun rest hrest=>?_,q3,fun h=>?_⟩
     ·have:=wd_step (W:=Wd E) (a:=x.steps) (b:=z.steps) (by omega)
      have h3:Wd E * (z.steps - (x.steps+1))=Wd E * (y.steps - (x.steps+1))+Wd E * (z.steps - y.steps):=by rw [<-Nat.mul_add];congr 1;omega
      omega
     ·dsimp only
      rw [List.append_assoc,List.cons_append,g2 _ (by simp [ho'])]
      simp only [ho',Bool.false_eq_true,if_false]
      rw [q2 rest hrest]
      simp [tl,b]
     ·obtain⟨f1,f2,f3,f4⟩:=q4 h
      refine⟨f1,f2,fun j h1 h2=>?_,f4⟩
      rw [f3 j h1 h2]
      show upd r1 12 _ j=r j
      rw [upd_ne _ _ _ _ (by omega),k3 j h1 (by omega)]
end
section
variable {c:List CI} {E:Env} {p T G deep fuel:Nat}
theorem Sim.until (hE:E.Ok)(hdeep:deep<=6){K:Int}(hK:1<=K/\K<=50){a out:Nat}(ha:a<E.nv){X:List CI}{f:RS->RS}(hout:out=p+1+X.length+5)
  (hc:At c p (ci 1 (2+deep:Nat) 0 0 0 K :: (X++[ci 15 12 0 0 0 (E.place a:Nat),ci 19 0 12 0 0 (out:Nat),(⟨4,(2+deep:Nat),(2+deep:Nat),1,0,0⟩,⟨0,K⟩),ci 19 0 (2+deep:Nat) 0 0 ((p+1:Nat):Int),ci 17 0 0 0 0 (G:Nat)])))
  (hb:Sim c E (p+1) (p+1+X.length) T G (deep+1) f):Sim c E p out T G deep (untilN fuel a f K.toNat):=by
 obtain⟨C,h⟩:=until_rounds (fuel:=fuel) hE hdeep hK.2 ha hout hc.tail.right hb K.toNat (by omega) (by omega)
 refine⟨fun ev u=>{ C ev u with l:=⟨1,p⟩ :: (C ev u).l},fun x hov hc0=>?_⟩
 obtain⟨h1,h2⟩:=h x hov hc0
 refine⟨h1,fun hne=>?_⟩
 obtain⟨ev,hgo,hw⟩:=h2 hne
 refine⟨ev,hgo,fun r m hr hm=>?_⟩
 refine W.const hc (by omega) (by omega) fun _=>?_
 simp only [Int.toNat_natCast]
 refine W.mono (hw _ m (RegFix.updc hr _ _ (by omega)) (by rw [upd_same];omega) hm) ?_
 rintro n l s ⟨g1,g2,g3,g4⟩
 refine⟨g1,fun rest hrest=>?_,g3,fun h=>?_⟩
 ·dsimp only
  rw [g2 rest hrest]
 ·obtain⟨k1,k2,k3,k4⟩:=g4 h
  exact⟨k1,k2,fun j h1 h2=>by rw [k3 j h1 h2,upd_ne _ _ _ _ (by omega)],k4⟩
theorem Sim.moved {q q':Nat}{f:RS->RS}(h:Sim c E p q T G deep f)(e:q=q'):Sim c E p q' T G deep f:=e ▸ h
mutual
theorem sim_stmt (hE:E.Ok):∀ (s:Stmt) (deep p:Nat),GoodS E deep s->At c p (genS E T G deep p s)->Sim c E p (p+(genS E T G deep p s).length) T G deep (exS E fuel s)
 |⟨op,d,a,b,e,k,body,els⟩,deep,p,hs,hc=>by
  unfold GoodS at hs
  obtain⟨hdeep,hs⟩:=hs
  rcases hs with⟨rfl,ha,hb,he⟩|⟨rfl,k1,k2,hb⟩|⟨rfl,k1,k2,ha,hb⟩|hv
  ·unfold isVar at ha
   simp only [genS,if_true] at hc ⊢
   have h1:=sim_list hE body (deep+1) (p+2) hb hc.right.left
   have h2:=sim_list hE els (deep+1) (p+2+(genL E T G (deep+1) (p+2) body).length+1) he hc.right.right.tail
   have:=Sim.cond (fuel:=fuel) hE hdeep (a:=a.toNat) (by omega) hc h1 h2
   refine (Sim.congr this (fun x _=>?_)).moved ?_
   ·simp [exS]
   ·simp;omega
  ·simp only [genS,show¬(15:Int)=14 by decide,if_false,if_true] at hc ⊢
   have h1:=sim_list hE body (deep+1) (p+1) hb hc.tail.left
   have:=Sim.times (fuel:=fuel) hdeep ⟨k1,k2⟩ hc h1
   refine (Sim.congr this (fun x _=>?_)).moved ?_
   ·simp [exS]
   ·simp;omega
  ·unfold isVar at ha
   simp only [genS,show¬(16:Int)=14 by decide,show¬(16:Int)=15 by decide,if_false,if_true] at hc ⊢
   have h1:=sim_list hE body (deep+1) (p+1) hb hc.tail.left
   have:=Sim.until (fuel:=fuel) hE hdeep ⟨k1,k2⟩ (a:=a.toNat) (by omega) rfl hc h1
   refine (Sim.congr this (fun x _=>?_)).moved ?_
   ·simp [exS]
   ·simp;omega
  ·have hop:=hv.op
   dsimp only at hop
   have e14:¬op=14:=by omega
   have e15:¬op=15:=by omega
   have e16:¬op=16:=by omega
   simp only [genS,e14,e15,e16,if_false] at hc ⊢
   by_cases h13:op=13
   ·subst h13
    have hd:=hv.d
    unfold isVar at hd
    dsimp only at hd
    simp only [vecC] at hc ⊢
    simp at hc ⊢
    have:=draw_stmt (fuel:=fuel) (G:=G) hE hdeep (d:=d.toNat) (by omega) hc
    refine (Sim.congr this (fun x _=>?_)).moved ?_
    ·simp [exS]
    ·simp [eachC_length,drawB]
   ·have:=vec_sim (fuel:=fuel) (G:=G) hE hdeep hv (by dsimp only;omega) hc
    refine Sim.congr this (fun x _=>?_)
    simp [exS,h13,e14,e15,e16]
theorem sim_list (hE:E.Ok):∀ (l:List Stmt) (deep p:Nat),GoodL E deep l->At c p (genL E T G deep p l)->Sim c E p (p+(genL E T G deep p l).length) T G deep (exL E fuel l)
 |[],deep,p,_,_=>by
  simp only [genL,List.length_nil,Nat.add_zero]
  exact Sim.congr Sim.nil (fun x _=>by simp [exL])
 |s :: l,deep,p,hs,hc=>by
  unfold GoodL at hs
  simp only [genL] at hc ⊢
  have h1:=sim_stmt hE s deep p hs.1 hc.left
  have h2:=sim_list hE l deep (p+(genS E T G deep p s).length) hs.2 hc.right
  have:=Sim.seq h1 h2
  refine (Sim.congr this (fun x hov=>?_)).moved ?_
  ·simp only [exL,hov,Bool.false_eq_true,if_false]
   by_cases ho:(exS E fuel s x).over=true
   ·simp only [ho,if_true]
    cases l<;> simp [exL,ho]
   ·simp only [ho]
    rfl
  ·rw [List.length_append,<-Nat.add_assoc]
end
end
mutual
def drawsS:Stmt->Bool
 |⟨op,_,_,_,_,_,body,els⟩=>if op=13 then true else if op=14 then drawsL body || drawsL els else if op=15\/op=16 then drawsL body else false
def drawsL:List Stmt->Bool
 |[]=>false
 |s :: l=>drawsS s || drawsL l
end
mutual
def untilsS:Stmt->Bool
 |⟨op,_,_,_,_,_,body,els⟩=>if op=16 then true else if op=14 then untilsL body || untilsL els else if op=15 then untilsL body else false
def untilsL:List Stmt->Bool
 |[]=>false
 |s :: l=>untilsS s || untilsL l
end
section
variable {E:Env} {fuel:Nat}
theorem stepThen_code {n:Int}(hn:n≠4){f:RS->RS}{x:RS}(h:∀ x,x.code≠n->(f x).code≠n)(hx:x.code≠n):(x.stepThen fuel f).code≠n:=by
 unfold RS.stepThen
 split
 ·simp [RS.fin];omega
 ·exact h _ hx
theorem timesN_code {n:Int}{f:RS->RS}(h:∀ x,x.code≠n->(f x).code≠n):∀ (k:Nat) (x:RS),x.code≠n->(timesN f k x).code≠n:=by
 intro k
 induction k with
 |zero=>intro x hx;exact hx
 |succ k ih=>
  intro x hx
  unfold timesN
  split
  ·exact hx
  ·exact ih _ (h _ hx)
theorem untilN_code {n:Int}(hn:n≠4)(hn2:n≠2){a:Nat}{f:RS->RS}(h:∀ x,x.code≠n->(f x).code≠n):∀ (k:Nat) (x:RS),x.code≠n->(untilN fuel a f k x).code≠n:=by
 intro k
 induction k with
 |zero=>intro x _;simp [untilN,RS.fin];omega
 |succ k ih=>
  intro x hx
  rw [untilN_succ]
  refine stepThen_code hn (fun x hx=>?_) hx
  unfold untilT
  split
  ·exact h _ hx
  ·split
   ·exact h _ hx
   ·exact ih _ (h x hx)
theorem drawGo_code2 {d:Nat}:∀ (l:List Int) (i:Nat) (f:Nat->Int) (x:RS),x.code≠2->(drawGo E fuel d l i f x).code≠2:=by
 intro l
 induction l with
 |nil=>intro i f x h;unfold drawGo;split<;> simp [RS.fin,h]
 |cons t rest ih=>
  intro i f x h
  unfold drawGo RS.stepThen
  repeat' split
  ·simp [RS.fin]
  ·simp only
   split
   ·exact ih _ _ _ h
   ·exact ih _ _ _ h
  ·exact h
mutual
theorem noDraw_stmt:∀ (s:Stmt),drawsS s=false->∀ x:RS,x.code≠1->(exS E fuel s x).code≠1
 |⟨op,d,a,b,e,k,body,els⟩,hs,x,hx=>by
  simp only [drawsS] at hs
  unfold exS
  by_cases h13:op=13
  ·simp [h13] at hs
  ·by_cases h16:op=16
   ·subst h16
    simp at hs ⊢
    exact untilN_code (by decide) (by decide) (fun x hx=>noDraw_list body hs x hx) _ _ hx
   ·simp only [h13,h16,if_false] at hs ⊢
    refine stepThen_code (by decide) (fun x hx=>?_) hx
    by_cases h14:op=14
    ·subst h14
     simp at hs ⊢
     split
     ·exact noDraw_list els hs.2 _ hx
     ·exact noDraw_list body hs.1 _ hx
    ·by_cases h15:op=15
     ·subst h15
      simp at hs ⊢
      exact timesN_code (fun x hx=>noDraw_list body hs x hx) _ _ hx
     ·simp only [h14,h15,if_false]
      split<;> exact hx
theorem noDraw_list:∀ (l:List Stmt),drawsL l=false->∀ x:RS,x.code≠1->(exL E fuel l x).code≠1
 |[],_,x,hx=>by unfold exL;exact hx
 |s :: l,hs,x,hx=>by
  simp [drawsL] at hs
  unfold exL
  split
  ·exact hx
  ·exact noDraw_list l hs.2 _ (noDraw_stmt s hs.1 x hx)
end
mutual
theorem noUntil_stmt:∀ (s:Stmt),untilsS s=false->∀ x:RS,x.code≠2->(exS E fuel s x).code≠2
 |⟨op,d,a,b,e,k,body,els⟩,hs,x,hx=>by
  simp only [untilsS] at hs
  unfold exS
  by_cases h16:op=16
  ·simp [h16] at hs
  ·simp only [h16,if_false] at hs ⊢
   refine stepThen_code (by decide) (fun x hx=>?_) hx
   by_cases h13:op=13
   ·simp only [h13,if_true]
    exact drawGo_code2 _ _ _ _ hx
   ·by_cases h14:op=14
    ·subst h14
     simp at hs ⊢
     split
     ·exact noUntil_list els hs.2 _ hx
     ·exact noUntil_list body hs.1 _ hx
    ·by_cases h15:op=15
     ·subst h15
      simp at hs ⊢
      exact timesN_code (fun x hx=>noUntil_list body hs x hx) _ _ hx
     ·simp only [h13,h14,h15,if_false]
      split<;> exact hx
theorem noUntil_list:∀ (l:List Stmt),untilsL l=false->∀ x:RS,x.code≠2->(exL E fuel l x).code≠2
 |[],_,x,hx=>by unfold exL;exact hx
 |s :: l,hs,x,hx=>by
  simp [untilsL] at hs
  unfold exL
  split
  ·exact hx
  ·exact noUntil_list l hs.2 _ (noUntil_stmt s hs.1 x hx)
end
def beginC (E:Env):List CI:=[ci 1 1 0 0 0 1,ci 1 10 0 0 0 E.n,ci 1 19 0 0 0 E.q,ci 1 20 0 0 0 (18446744073709551615 / (E.q:Int))]
def endC (body:List Stmt):List CI:=ci 20 0 0 0 0 0 :: ((if drawsL body then [ci 20 0 0 0 0 1] else [])++(if untilsL body then [ci 20 0 0 0 0 2] else []))
def outT (len:Nat):Nat:=len+1
def outG (len:Nat)(body:List Stmt):Nat:=len+1+(if drawsL body then 1 else 0)
def bodyP (body:List Stmt):Nat:=if body.isEmpty then 0 else 4
def progC (E:Env)(body:List Stmt)(T G:Nat):List CI:=(if body.isEmpty then [] else beginC E)++(genL E T G 0 (bodyP body) body++endC body)
def haltAt (len:Nat)(body:List Stmt)(code:Int):Nat:=if code=1 then outT len else if code=2 then outG len body else len
theorem RegOk.begin {r m:Nat->Int}{c:List CI}{M:Nat}{l:List CI}{Q:Nat->List Leak->Cfg->Prop}(hE:E.Ok)(hc:At c 0 (beginC E++l))(hr:∀ j,r j=0)
  (K:∀ r',At c 4 l->RegFix E r'->W c M ⟨4,r',m⟩ (fun n l2 s2=>Q (n+4) (⟨1,(0:Nat)⟩ :: ⟨1,(1:Nat)⟩ :: ⟨1,(2:Nat)⟩ :: ⟨1,(3:Nat)⟩ :: l2) s2)):W c M ⟨0,r,m⟩ Q:=by
 have q0:=hE.q0;have q1:=hE.q1;have n1:=hE.n1
 have b1:(0:Int)<=18446744073709551615 / (E.q:Int):=Int.ediv_nonneg (by omega) (by omega)
 have b2:18446744073709551615 / (E.q:Int)<18446744073709551616:=Int.lt_of_le_of_lt (Int.ediv_le_self _ (by omega)) (by omega)
 refine W.const hc (by omega) (by omega) fun h=>?_
 refine W.const h (by omega) (by omega) fun h=>?_
 refine W.const h (by omega) (by omega) fun h=>?_
 refine W.const h b1 b2 fun h=>?_
 refine K _ h ⟨by simp [Al.upd,hr],by simp [Al.upd],by simp [Al.upd],by simp [Al.upd],by simp [Al.upd],fun _ _ _=>rfl⟩
theorem prog_ok {c:List CI}{body:List Stmt}{len T G:Nat}(hE:E.Ok)(hg:GoodL E 0 body)(hc:c=progC E body T G)(hlen:len=bodyP body+(genL E T G 0 (bodyP body) body).length)(hT:T=outT len)(hG:G=outG len body):
  ∃ C:List Ev->List Leak,∀ x:RS,x.over=false->x.code=0->x.used=0->(exL E fuel body x).code≠4->∃ ev,Goes x (exL E fuel body x) ev/\
   ∀ r m,(∀ j,r j=0)->MemOk E x.tape x.V 0 m->∃ n s,Steps c E.mem ⟨0,r,m⟩ n (C ev) s/\n+1<=(((exL E fuel body x).steps - x.steps)+1) * Wd E/\
    s.pc=haltAt len body (exL E fuel body x).code/\(∃ p,c[s.pc]?=some (⟨20,0,0,0,0,(exL E fuel body x).code⟩,p))/\s.m 1=(exL E fuel body x).used/\
    ((exL E fuel body x).over=false->(exL E fuel body x).code=0/\MemOk E (exL E fuel body x).tape (exL E fuel body x).V (exL E fuel body x).used s.m):=by
 have hW:=wd_le E
 have hat:At c 0 (progC E body T G):=fun i x hx=>by rw [Nat.zero_add,hc];exact hx
 unfold progC at hat
 by_cases hb:body.isEmpty=true
 ·have hb2:body=[]:=by simpa using hb
  subst hb2
  simp [bodyP,genL,endC,drawsL,untilsL] at hat hlen
  subst hlen
  refine⟨fun _=>[],fun x hov hc0 hu hne=>⟨[],⟨by simp [exL],by simp [exL],by simp [exL,hov]⟩,fun r m hr hm=>⟨0,⟨0,r,m⟩,.refl _,?_⟩⟩⟩
  simp only [exL]
  refine⟨by rw [Nat.sub_self];omega,by simp [haltAt,hc0],⟨allSpan,by rw [hc0];exact hat.head⟩,by rw [hu];exact hm.m1,fun _=>⟨hc0,by rw [hu];exact hm⟩⟩
 ·simp only [hb] at hat
  have hbp:bodyP body=4:=by unfold bodyP;simp [hb]
  rw [hbp] at hat hlen
  simp only [Bool.false_eq_true,if_false] at hat
  have h4:At c 4 (genL E T G 0 4 body++endC body):=At.right (l:=beginC E) hat
  have hend:At c len (endC body):=by rw [hlen];exact h4.right
  obtain⟨C,h⟩:=sim_list (fuel:=fuel) hE body 0 4 hg h4.left
  refine⟨fun ev=>⟨1,(0:Nat)⟩ :: ⟨1,(1:Nat)⟩ :: ⟨1,(2:Nat)⟩ :: ⟨1,(3:Nat)⟩ :: (C ev 0).l,fun x hov hc0 hu hne=>?_⟩
  obtain⟨h1,h2⟩:=h x hov hc0
  obtain⟨ev,hgo,hw⟩:=h2 hne
  refine⟨ev,hgo,fun r m hr hm=>?_⟩
  have:=RegOk.begin (Q:=fun n l s=>n+1<=(((exL E fuel body x).steps - x.steps)+1) * Wd E/\l=⟨1,(0:Nat)⟩ :: ⟨1,(1:Nat)⟩ :: ⟨1,(2:Nat)⟩ :: ⟨1,(3:Nat)⟩ :: (C ev 0).l/\
    s.pc=haltAt len body (exL E fuel body x).code/\(∃ p,c[s.pc]?=some (⟨20,0,0,0,0,(exL E fuel body x).code⟩,p))/\s.m 1=(exL E fuel body x).used/\
    ((exL E fuel body x).over=false->(exL E fuel body x).code=0/\MemOk E (exL E fuel body x).tape (exL E fuel body x).V (exL E fuel body x).used s.m)) (M:=E.mem) (m:=m) hE hat hr ?_
  ·obtain⟨n,l,s,g1,g2,g3,g4⟩:=this
   subst g3
   exact⟨n,s,g1,g2,g4⟩
  ·intro r' _ hr'
   refine W.mono (hw r' m hr' (by rw [hu];exact hm)) ?_
   rintro n l s ⟨a1,a2,a3,a4⟩
   generalize hy:exL E fuel body x=y at *
   have e1:(y.steps - x.steps+1) * Wd E=Wd E * (y.steps - x.steps)+Wd E:=by rw [Nat.add_mul,Nat.one_mul,Nat.mul_comm]
   refine⟨by omega,?_,?_⟩
   ·have:=a2 [] (fun _=>rfl)
    rw [List.append_nil,hu] at this
    rw [this]
   ·by_cases ho:y.over=true
    ·obtain⟨b1,b2⟩:=a3 ho
     rcases hgo.over ho with hcode|hcode
     ·rw [hcode] at b1 ⊢
      simp only [if_true] at b1
      have hd:drawsL body=true:=by
       cases hd:drawsL body with
       |true=>rfl
       |false=>
        have:=noDraw_list (E:=E) (fuel:=fuel) body hd x (by rw [hc0];decide)
        rw [hy] at this;exact absurd hcode this
      refine⟨by rw [b1,hT];simp [haltAt],⟨allSpan,?_⟩,b2,fun h=>by simp [ho] at h⟩
      rw [b1,hT]
      have:=hend.tail
      simp only [hd,if_true] at this
      exact this.left.head
     ·rw [hcode] at b1 ⊢
      simp only [show¬(2:Int)=1 by decide,if_false] at b1
      have hd:untilsL body=true:=by
       cases hd:untilsL body with
       |true=>rfl
       |false=>
        have:=noUntil_list (E:=E) (fuel:=fuel) body hd x (by rw [hc0];decide)
        rw [hy] at this;exact absurd hcode this
      refine⟨by rw [b1,hG];simp [haltAt],⟨allSpan,?_⟩,b2,fun h=>by simp [ho] at h⟩
      rw [b1,hG]
      have:=hend.tail.right
      simp only [hd,if_true] at this
      have e:len+1+(if drawsL body=true then [ci 20 0 0 0 0 1] else []).length=outG len body:=by unfold outG;split<;> rfl
      rw [e] at this
      exact this.head
    ·have ho':y.over=false:=by simpa using ho
     obtain⟨k1,k2,k3,k4⟩:=a4 ho'
     have hc1:=h1 ho'
     rw [hc1]
     refine⟨by rw [k1,hlen];simp [haltAt],⟨allSpan,?_⟩,k4.m1,fun _=>⟨rfl,k4⟩⟩
     rw [k1,<-hlen]
     exact hend.head
end
end Go.Proofs.YtkplfaionpplaaaGreatDoor.Al
