/- Part 4: P17, P18, P19, P20, P21, P22, P23. -/
import Derived.Test.YtkplfaionpplaaaGreatDoorK3
set_option linter.unusedVariables false
set_option linter.unusedSimpArgs false
namespace Go.Proofs.YtkplfaionpplaaaGreatDoor.Al
structure RRes where
 code:Int
 mem:List Int
 leaks:List Leak
 steps:Int
 wrong:Int
deriving DecidableEq,Repr,Inhabited
instance (i:Inst)(s:Span)(a b:Int):Decidable (inside i s a b):=by unfold inside;infer_instance
def gI (l:List Int)(i:Int):Int:=l.getD i.toNat 0
def setI (l:List Int)(i:Int)(v:Int):List Int:=l.set i.toNat v
def rrun (c:List Inst)(sp:List Span)(memN:Int):Nat->Int->List Int->List Int->List Leak->Int->RRes
 |k,pc,regs,mem,leaks,steps=>
  if pc>=c.length then ⟨3,mem,leaks,steps, -1⟩ else
  match k with
  |0=>⟨4,mem,leaks,steps, -1⟩
  |k+1=>
   let i:=c.getD pc.toNat default
   let leaks:=leaks++[⟨1,pc⟩]
   let steps:=steps+1
   let a:=gI regs i.a
   let b:=gI regs i.b
   if i.op=15\/i.op=16 then
    let at_:=wrapU (a+wrapU i.k)
    let leaks:=leaks++[⟨3,sgn at_⟩]
    if at_>=memN then ⟨3,mem,leaks,steps, -1⟩ else
    if i.op=15 then rrun c sp memN k (pc+1) (setI regs i.d (gI mem at_)) mem leaks steps
    else rrun c sp memN k (pc+1) regs (setI mem at_ b) leaks steps
   else if i.op=17 then rrun c sp memN k i.k regs mem leaks steps
   else if i.op=18\/i.op=19 then
    let goes:=decide (decide (a=0)=decide (i.op=18))
    let leaks:=leaks++[⟨2,if goes then 1 else 0⟩]
    rrun c sp memN k (if goes then i.k else pc+1) regs mem leaks steps
   else if i.op=20 then ⟨i.k,mem,leaks,steps, -1⟩
   else if sp≠[]/\¬inside i (sp.getD pc.toNat default) a b then ⟨0,mem,leaks,steps,pc⟩
   else rrun c sp memN k (pc+1) (setI regs i.d (wvalue i a b (gI regs i.c))) mem leaks steps
def Rep (l:List Int)(n:Nat)(f:Nat->Int):Prop:=l.length=n/\∀ j,j<n->l.getD j 0=f j
theorem Rep.set {l:List Int}{n:Nat}{f:Nat->Int}(h:Rep l n f)(j:Nat)(v:Int)(hj:j<n):Rep (l.set j v) n (upd f j v):=by
 refine⟨by simp [h.1],fun k hk=>?_⟩
 unfold upd
 by_cases e:k=j
 ·subst e;simp [List.getD_eq_getElem?_getD,h.1,hk]
 ·rw [if_neg e,<-h.2 k hk]
  simp only [List.getD_eq_getElem?_getD,List.getElem?_set]
  rw [if_neg (by omega)]
def RegsIn (n:Nat)(i:Inst):Prop:=0<=i.a/\i.a<n/\0<=i.b/\i.b<n/\0<=i.c/\i.c<n/\0<=i.d/\i.d<n
def insts (c:List CI):List Inst:=c.map (·.1)
def spansOf (c:List CI):List Span:=c.map (·.2)
theorem getD_map {c:List CI}{p:Nat}{i:Inst}{s:Span}(h:c[p]?=some (i,s)):(insts c).getD p default=i/\(spansOf c).getD p default=s/\p<(insts c).length:=by
 have hp:=(List.getElem?_eq_some_iff.1 h).1
 refine⟨?_,?_,by simp [insts,hp]⟩
 ·simp [insts,List.getD_eq_getElem?_getD,h]
 ·simp [spansOf,List.getD_eq_getElem?_getD,h]
theorem sgn_at {t:Nat}(h:t<65536):sgn (t:Int)=t:=by unfold sgn;rw [if_pos (by omega)]
theorem step_rrun {c:List CI}{M n:Nat}{s s':Cfg}{l:List Leak}(h:Step c M s l s')(hM:M<=65536)(hr:∀ (p:Nat) (i:Inst) (x:Span),c[p]?=some (i,x)->RegsIn n i)
  {sp:List Span} (hsp:sp=[]\/sp=spansOf c) {regs mem:List Int} (hR:Rep regs n s.r) (hm:Rep mem M s.m) (k:Nat) (L:List Leak) (st:Int):
  ∃ regs' mem',Rep regs' n s'.r/\Rep mem' M s'.m/\rrun (insts c) sp M (k+1) s.pc regs mem L st=rrun (insts c) sp M k s'.pc regs' mem' (L++l) (st+1):=by
 have gR:∀ {x:Int},0<=x->x<n->gI regs x=s.r x.toNat:=fun h0 h1=>hR.2 _ (by omega)
 cases h with
 | @plain i p hc h1 h2 hw=>
  obtain⟨e1,e2,e3⟩:=getD_map hc
  obtain⟨a0,a1,b0,b1,c0,c1,d0,d1⟩:=hr _ _ _ hc
  refine⟨setI regs i.d (wvalue i (s.r i.a.toNat) (s.r i.b.toNat) (s.r i.c.toNat)),mem,hR.set _ _ (by omega),hm,?_⟩
  rw [rrun]
  rw [if_neg (by omega)]
  simp only [Int.toNat_natCast,e1]
  rw [if_neg (by omega),if_neg (by omega),if_neg (by omega),if_neg (by omega)]
  rw [gR a0 a1,gR b0 b1,gR c0 c1]
  rw [if_neg]
  ·rfl
  ·rcases hsp with rfl|rfl
   ·simp
   ·rw [e2];simp [hw]
 | @ld i p at_ hc ho ha hat=>
  obtain⟨e1,e2,e3⟩:=getD_map hc
  obtain⟨a0,a1,b0,b1,c0,c1,d0,d1⟩:=hr _ _ _ hc
  refine⟨setI regs i.d (s.m at_),mem,hR.set _ _ (by omega),hm,?_⟩
  rw [rrun]
  rw [if_neg (by omega)]
  simp only [Int.toNat_natCast,e1]
  rw [if_pos (.inl ho),gR a0 a1]
  have e4:wrapU (s.r i.a.toNat+wrapU i.k)=at_:=by rw [<-ha];unfold wrapU;omega
  have e5:sgn (at_:Int)=at_:=sgn_at (by omega)
  have e7:¬((at_:Int)>=(M:Int)):=by clear hM e4 e5;omega
  rw [e4,if_neg e7,if_pos ho,e5]
  have e6:gI mem at_=s.m at_:=by unfold gI;rw [Int.toNat_natCast];exact hm.2 _ hat
  rw [e6]
  simp
 | @st i p at_ hc ho ha hat=>
  obtain⟨e1,e2,e3⟩:=getD_map hc
  obtain⟨a0,a1,b0,b1,c0,c1,d0,d1⟩:=hr _ _ _ hc
  refine⟨regs,setI mem at_ (s.r i.b.toNat),hR,?_,?_⟩
  ·unfold setI;rw [Int.toNat_natCast];exact hm.set _ _ hat
  rw [rrun]
  rw [if_neg (by omega)]
  simp only [Int.toNat_natCast,e1]
  rw [if_pos (.inr ho),gR a0 a1,gR b0 b1]
  have e4:wrapU (s.r i.a.toNat+wrapU i.k)=at_:=by rw [<-ha];unfold wrapU;omega
  have e5:sgn (at_:Int)=at_:=sgn_at (by omega)
  have e7:¬((at_:Int)>=(M:Int)):=by clear hM e4 e5;omega
  rw [e4,if_neg e7,if_neg (by omega),e5]
  simp
 | @br i p t hc ho hkt=>
  obtain⟨e1,e2,e3⟩:=getD_map hc
  refine⟨regs,mem,hR,hm,?_⟩
  rw [rrun]
  rw [if_neg (by omega)]
  simp only [Int.toNat_natCast,e1]
  rw [if_neg (by omega),if_pos ho,hkt]
 | @bgo i p t hc ho hkt=>
  obtain⟨e1,e2,e3⟩:=getD_map hc
  obtain⟨a0,a1,b0,b1,c0,c1,d0,d1⟩:=hr _ _ _ hc
  refine⟨regs,mem,hR,hm,?_⟩
  rw [rrun]
  rw [if_neg (by omega)]
  simp only [Int.toNat_natCast,e1]
  rw [if_neg (by omega),if_neg (by omega),if_pos (by omega),gR a0 a1]
  have e4:decide (decide (s.r i.a.toNat=0)=decide (i.op=18))=true:=by
   rcases ho with⟨h1,h2⟩|⟨h1,h2⟩
   ·simp [h1,h2]
   ·simp [h1,h2]
  rw [e4]
  simp [hkt]
 | @bno i p hc ho=>
  obtain⟨e1,e2,e3⟩:=getD_map hc
  obtain⟨a0,a1,b0,b1,c0,c1,d0,d1⟩:=hr _ _ _ hc
  refine⟨regs,mem,hR,hm,?_⟩
  rw [rrun]
  rw [if_neg (by omega)]
  simp only [Int.toNat_natCast,e1]
  rw [if_neg (by omega),if_neg (by omega),if_pos (by omega),gR a0 a1]
  have e4:decide (decide (s.r i.a.toNat=0)=decide (i.op=18))=false:=by
   rcases ho with⟨h1,h2⟩|⟨h1,h2⟩
   ·simp [h1,h2]
   ·simp [h1,h2]
  rw [e4]
  simp
theorem Rep.unique {l l2:List Int}{n:Nat}{f:Nat->Int}(h:Rep l n f)(h2:Rep l2 n f):l=l2:=by
 refine List.ext_getElem (by rw [h.1,h2.1]) fun j hj hj2=>?_
 have e1:=h.2 j (by rw [<-h.1];exact hj)
 have e2:=h2.2 j (by rw [<-h.1];exact hj)
 rw [List.getD_eq_getElem?_getD,List.getElem?_eq_getElem hj] at e1
 rw [List.getD_eq_getElem?_getD,List.getElem?_eq_getElem hj2] at e2
 simp at e1 e2
 rw [e1,e2]
theorem steps_rrun {c:List CI}{M n:Nat}{s s':Cfg}{t:Nat}{l:List Leak}(h:Steps c M s t l s')(hM:M<=65536)(hr:∀ (p:Nat) (i:Inst) (x:Span),c[p]?=some (i,x)->RegsIn n i)
  {sp:List Span} (hsp:sp=[]\/sp=spansOf c):∀ {regs mem:List Int},Rep regs n s.r->Rep mem M s.m->
  ∃ regs' mem',Rep regs' n s'.r/\Rep mem' M s'.m/\∀ (k:Nat) (L:List Leak) (st:Int),rrun (insts c) sp M (t+k) s.pc regs mem L st=rrun (insts c) sp M k s'.pc regs' mem' (L++l) (st+t):=by
 induction h with
 |refl s=>intro regs mem hR hm;exact⟨regs,mem,hR,hm,fun k L st=>by simp⟩
 | @step s s1 s2 t l l2 h _ ih=>
  intro regs mem hR hm
  have key:∃ regs1 mem1,Rep regs1 n s1.r/\Rep mem1 M s1.m/\∀ (k:Nat) (L:List Leak) (st:Int),rrun (insts c) sp M (k+1) s.pc regs mem L st=rrun (insts c) sp M k s1.pc regs1 mem1 (L++l) (st+1):=by
   obtain⟨r1,m1,a,b,_⟩:=step_rrun h hM hr hsp hR hm 0 [] 0
   refine⟨r1,m1,a,b,fun k L st=>?_⟩
   obtain⟨r2,m2,a2,b2,e⟩:=step_rrun h hM hr hsp hR hm k L st
   have e1:r2=r1:=a2.unique a
   have e2:m2=m1:=b2.unique b
   subst e1 e2
   exact e
  obtain⟨r1,m1,a,b,e⟩:=key
  obtain⟨r2,m2,a2,b2,e2⟩:=ih a b
  refine⟨r2,m2,a2,b2,fun k L st=>?_⟩
  rw [show t+1+k=(t+k)+1 from by omega,e,e2,List.append_assoc]
  rw [show st+1+(t:Int)=st+((t+1:Nat):Int) from by omega]
theorem run_halts {c:List CI}{M n:Nat}{s s':Cfg}{t:Nat}{l:List Leak}(h:Steps c M s t l s')(hM:M<=65536)(hr:∀ (p:Nat) (i:Inst) (x:Span),c[p]?=some (i,x)->RegsIn n i)
  {sp:List Span} (hsp:sp=[]\/sp=spansOf c) {regs mem:List Int} (hR:Rep regs n s.r) (hm:Rep mem M s.m) {code:Int} {x:Span} (hh:c[s'.pc]?=some (⟨20,0,0,0,0,code⟩,x)) {fuel:Nat} (hf:t+1<=fuel):
  ∃ mem',Rep mem' M s'.m/\rrun (insts c) sp M fuel s.pc regs mem [] 0=⟨code,mem',l++[⟨1,s'.pc⟩],t+1, -1⟩:=by
 obtain⟨r2,m2,a2,b2,e⟩:=steps_rrun h hM hr hsp hR hm
 refine⟨m2,b2,?_⟩
 obtain⟨k,rfl⟩:∃ k,fuel=t+(k+1):=⟨fuel - t - 1,by omega⟩
 rw [e]
 obtain⟨e1,e2,e3⟩:=getD_map hh
 rw [rrun,if_neg (by omega)]
 simp only [Int.toNat_natCast,e1]
 simp
def hasD (op:Int):Prop:=1<=op/\op<=15
def hasA (op:Int):Prop:=2<=op/\op<=16\/op=18\/op=19
def hasB (op:Int):Prop:=3<=op/\op<=9\/op=13\/op=14\/op=16
def hasC (op:Int):Prop:=op=14
def hasK (op:Int):Prop:=op=1\/10<=op/\op<=12\/15<=op/\op<=20
instance (op:Int):Decidable (hasD op):=by unfold hasD;infer_instance
instance (op:Int):Decidable (hasA op):=by unfold hasA;infer_instance
instance (op:Int):Decidable (hasB op):=by unfold hasB;infer_instance
instance (op:Int):Decidable (hasC op):=by unfold hasC;infer_instance
instance (op:Int):Decidable (hasK op):=by unfold hasK;infer_instance
def regI (h:Prop)(x:Int):Prop:=(h->0<=x/\x<24)/\(¬h->x=0)
def okI (len:Nat)(i:Inst):Prop:=
 (1<=i.op/\i.op<=20)/\regI (hasD i.op) i.d/\regI (hasA i.op) i.a/\regI (hasB i.op) i.b/\regI (hasC i.op) i.c/\(¬hasK i.op->i.k=0)/\
 (10<=i.op/\i.op<=12->0<=i.k/\i.k<=63)/\(i.op=20->0<=i.k/\i.k<=2)/\(i.op=15\/i.op=16->0<=i.k/\i.k<=65535)/\(17<=i.op/\i.op<=19->0<=i.k/\i.k<=len)
theorem okI.regs {len:Nat}{i:Inst}(h:okI len i):RegsIn 25 i:=by
 obtain⟨_,d,a,b,c,_⟩:=h
 have f:∀ {p:Prop} {x:Int},regI p x->0<=x/\x<24:=fun {p x} h=>by
  by_cases hp:p
  ·exact h.1 hp
  ·rw [h.2 hp];decide
 have:=f d;have:=f a;have:=f b;have:=f c
 unfold RegsIn
 omega
def okC (len:Nat)(l:List CI):Prop:=∀ x∈l,okI len x.1
theorem okC.nil (len:Nat):okC len []:=fun x hx=>by simp at hx
theorem okC.cons {len:Nat}{x:CI}{l:List CI}(h:okI len x.1)(h2:okC len l):okC len (x :: l):=fun y hy=>by
 rcases List.mem_cons.1 hy with rfl|hy
 ·exact h
 ·exact h2 y hy
theorem okC.append {len:Nat}{l l2:List CI}(h:okC len l)(h2:okC len l2):okC len (l++l2):=fun y hy=>by
 rcases List.mem_append.1 hy with hy|hy
 ·exact h y hy
 ·exact h2 y hy
section
variable {len:Nat}
theorem ok_loop {n:Int}{p:Nat}{body:List CI}(hb:okC len body)(hp:p+1<=len):okC len (eachC n p body):=by
 refine okC.cons ?_ (hb.append (okC.cons ?_ (okC.cons ?_ (okC.cons ?_ (okC.nil _)))))
 all_goals (refine⟨?_,?_,?_,?_,?_,?_,?_,?_,?_,?_⟩<;> simp [ci,upC,regI,hasD,hasA,hasB,hasC,hasK];try omega)
end
section
variable {len:Nat} {E:Env}
theorem place_le (hE:E.Ok){v:Nat}(hv:v<E.nv):(E.place v:Int)<=65535:=by
 have:=Env.place_lt hv (show 0<E.n by have:=hE.n0;omega)
 have:=hE.mem_le;unfold Env.mem Env.scratch at this;omega
theorem ok_ld (hE:E.Ok){x y:Int}{v:Nat}(hx:0<=x/\x<24)(hy:0<=y/\y<24)(hv:v<E.nv):okI len (ci 15 x y 0 0 (E.place v:Nat)).1:=by
 have:=place_le hE hv
 refine⟨?_,?_,?_,?_,?_,?_,?_,?_,?_,?_⟩<;> simp [ci,regI,hasD,hasA,hasB,hasC,hasK]<;> omega
theorem ok_st (hE:E.Ok){x y:Int}{v:Nat}(hx:0<=x/\x<24)(hy:0<=y/\y<24)(hv:v<E.nv):okI len (ci 16 0 y x 0 (E.place v:Nat)).1:=by
 have:=place_le hE hv
 refine⟨?_,?_,?_,?_,?_,?_,?_,?_,?_,?_⟩<;> simp [ci,regI,hasD,hasA,hasB,hasC,hasK]<;> omega
theorem ok_three {op d a b:Int}{s:Span}(hop:3<=op/\op<=9\/op=13)(hd:0<=d/\d<24)(ha:0<=a/\a<24)(hb:0<=b/\b<24):okI len ((⟨op,d,a,b,0,0⟩,s):CI).1:=by
 refine⟨?_,?_,?_,?_,?_,?_,?_,?_,?_,?_⟩<;> simp [regI,hasD,hasA,hasB,hasC,hasK]<;> omega
theorem ok_const {d k:Int}{s:Span}(hd:0<=d/\d<24):okI len ((⟨1,d,0,0,0,k⟩,s):CI).1:=by
 refine⟨?_,?_,?_,?_,?_,?_,?_,?_,?_,?_⟩<;> simp [regI,hasD,hasA,hasB,hasC,hasK]<;> omega
theorem ok_sel {d a b c:Int}{s:Span}(hd:0<=d/\d<24)(ha:0<=a/\a<24)(hb:0<=b/\b<24)(hc:0<=c/\c<24):okI len ((⟨14,d,a,b,c,0⟩,s):CI).1:=by
 refine⟨?_,?_,?_,?_,?_,?_,?_,?_,?_,?_⟩<;> simp [regI,hasD,hasA,hasB,hasC,hasK]<;> omega
theorem ok_mov {d a:Int}{s:Span}(hd:0<=d/\d<24)(ha:0<=a/\a<24):okI len ((⟨2,d,a,0,0,0⟩,s):CI).1:=by
 refine⟨?_,?_,?_,?_,?_,?_,?_,?_,?_,?_⟩<;> simp [regI,hasD,hasA,hasB,hasC,hasK]<;> omega
theorem ok_shift {op d a k:Int}{s:Span}(hop:10<=op/\op<=12)(hd:0<=d/\d<24)(ha:0<=a/\a<24)(hk:0<=k/\k<=63):okI len ((⟨op,d,a,0,0,k⟩,s):CI).1:=by
 refine⟨?_,?_,?_,?_,?_,?_,?_,?_,?_,?_⟩<;> simp [regI,hasD,hasA,hasB,hasC,hasK]<;> omega
theorem ok_branch {op a k:Int}{s:Span}(hop:op=18\/op=19)(ha:0<=a/\a<24)(hk:0<=k/\k<=len):okI len ((⟨op,0,a,0,0,k⟩,s):CI).1:=by
 refine⟨?_,?_,?_,?_,?_,?_,?_,?_,?_,?_⟩<;> simp [regI,hasD,hasA,hasB,hasC,hasK]<;> omega
theorem ok_br {k:Int}{s:Span}(hk:0<=k/\k<=len):okI len ((⟨17,0,0,0,0,k⟩,s):CI).1:=by
 refine⟨?_,?_,?_,?_,?_,?_,?_,?_,?_,?_⟩<;> simp [regI,hasD,hasA,hasB,hasC,hasK]<;> omega
theorem ok_halt {k:Int}{s:Span}(hk:0<=k/\k<=2):okI len ((⟨20,0,0,0,0,k⟩,s):CI).1:=by
 refine⟨?_,?_,?_,?_,?_,?_,?_,?_,?_,?_⟩<;> simp [regI,hasD,hasA,hasB,hasC,hasK]<;> omega
theorem ok_ld0 {x y k:Int}(hx:0<=x/\x<24)(hy:0<=y/\y<24)(hk:0<=k/\k<=65535):okI len (ci 15 x y 0 0 k).1:=by
 refine⟨?_,?_,?_,?_,?_,?_,?_,?_,?_,?_⟩<;> simp [ci,regI,hasD,hasA,hasB,hasC,hasK]<;> omega
theorem ok_st0 {x y k:Int}(hx:0<=x/\x<24)(hy:0<=y/\y<24)(hk:0<=k/\k<=65535):okI len (ci 16 0 y x 0 k).1:=by
 refine⟨?_,?_,?_,?_,?_,?_,?_,?_,?_,?_⟩<;> simp [ci,regI,hasD,hasA,hasB,hasC,hasK]<;> omega
theorem ok_cut {q x:Int}(hx:0<=x/\x<24):okC len (cutC q x):=
 .cons (ok_three (.inr rfl) (by decide) hx (by decide)) (.cons (ok_three (by decide) (by decide) hx (by decide)) (.cons (ok_sel hx (by decide) hx (by decide)) (.nil _)))
theorem ok_quot {q most x:Int}(hx:0<=x/\x<24):okC len (quotC q most x):=
 .cons (ok_three (by decide) (by decide) hx (by decide)) (.cons (ok_three (by decide) (by decide) (by decide) (by decide)) (.cons (ok_three (by decide) (by decide) hx (by decide)) (.nil _)))
theorem ok_reduce {q most x:Int}(hx:0<=x/\x<24):okC len (reduceC q most x):=(ok_quot hx).append (.cons (ok_mov hx (by decide)) (ok_cut hx))
theorem ok_zeroB (hE:E.Ok){d:Nat}(hd:d<E.nv):okC len (zeroB E d):= .cons (ok_st hE (by decide) (by decide) hd) (.nil _)
theorem ok_copyB (hE:E.Ok){d a:Nat}(hd:d<E.nv)(ha:a<E.nv):okC len (copyB E d a):= .cons (ok_ld hE (by decide) (by decide) ha) (.cons (ok_st hE (by decide) (by decide) hd) (.nil _))
theorem ok_addB (hE:E.Ok){d a b:Nat}(hd:d<E.nv)(ha:a<E.nv)(hb:b<E.nv):okC len (addB E d a b):=
 .cons (ok_ld hE (by decide) (by decide) ha) (.cons (ok_ld hE (by decide) (by decide) hb) (.cons (ok_three (by decide) (by decide) (by decide) (by decide)) ((ok_cut (by decide)).append (.cons (ok_st hE (by decide) (by decide) hd) (.nil _)))))
theorem ok_subB (hE:E.Ok){d a b:Nat}(hd:d<E.nv)(ha:a<E.nv)(hb:b<E.nv):okC len (subB E d a b):=
 .cons (ok_ld hE (by decide) (by decide) ha) (.cons (ok_ld hE (by decide) (by decide) hb) (.cons (ok_three (by decide) (by decide) (by decide) (by decide)) (.cons (ok_three (by decide) (by decide) (by decide) (by decide)) ((ok_cut (by decide)).append (.cons (ok_st hE (by decide) (by decide) hd) (.nil _))))))
theorem ok_mulB (hE:E.Ok){d a b:Nat}(hd:d<E.nv)(ha:a<E.nv)(hb:b<E.nv):okC len (mulB E d a b):=
 .cons (ok_ld hE (by decide) (by decide) ha) (.cons (ok_ld hE (by decide) (by decide) hb) (.cons (ok_three (by decide) (by decide) (by decide) (by decide)) ((ok_reduce (by decide)).append (.cons (ok_st hE (by decide) (by decide) hd) (.nil _)))))
theorem ok_scaleB (hE:E.Ok){d a:Nat}(hd:d<E.nv)(ha:a<E.nv):okC len (scaleB E d a):=
 .cons (ok_ld hE (by decide) (by decide) ha) (.cons (ok_three (by decide) (by decide) (by decide) (by decide)) ((ok_reduce (by decide)).append (.cons (ok_st hE (by decide) (by decide) hd) (.nil _))))
theorem ok_pickB (hE:E.Ok){d a b c:Nat}(hd:d<E.nv)(ha:a<E.nv)(hb:b<E.nv)(hc:c<E.nv):okC len (pickB E d a b c):=
 .cons (ok_ld hE (by decide) (by decide) ha) (.cons (ok_ld hE (by decide) (by decide) hb) (.cons (ok_ld hE (by decide) (by decide) hc) (.cons (ok_three (by decide) (by decide) (by decide) (by decide)) (.cons (ok_sel (by decide) (by decide) (by decide) (by decide)) (.cons (ok_st hE (by decide) (by decide) hd) (.nil _))))))
theorem ok_roundB (hE:E.Ok){d a K:Nat}(hd:d<E.nv)(ha:a<E.nv)(hK:K<=63):okC len (roundB E d a K):=
 .cons (ok_ld hE (by decide) (by decide) ha) (.cons (ok_shift (by decide) (by decide) (by decide) (by omega)) (.cons (ok_three (by decide) (by decide) (by decide) (by decide)) ((ok_quot (by decide)).append
  (.cons (ok_three (by decide) (by decide) (by decide) (by decide)) (.cons (ok_three (by decide) (by decide) (by decide) (by decide)) (.cons (ok_sel (by decide) (by decide) (by decide) (by decide)) (.cons (ok_three (by decide) (by decide) (by decide) (by decide)) (.cons (ok_st hE (by decide) (by decide) hd) (.nil _)))))))))
theorem ok_expandB (hE:E.Ok){d a K:Nat}(hd:d<E.nv)(ha:a<E.nv)(hK:K<=63):okC len (expandB E d a K):=
 .cons (ok_ld hE (by decide) (by decide) ha) (.cons (ok_three (by decide) (by decide) (by decide) (by decide)) (.cons (ok_three (by decide) (by decide) (by decide) (by decide)) (.cons (ok_three (by decide) (by decide) (by decide) (by decide)) (.cons (ok_shift (by decide) (by decide) (by decide) (by omega)) (.cons (ok_st hE (by decide) (by decide) hd) (.nil _))))))
theorem ok_normB (hE:E.Ok){a:Nat}(ha:a<E.nv):okC len (normB E a):=
 .cons (ok_ld hE (by decide) (by decide) ha) (.cons (ok_three (by decide) (by decide) (by decide) (by decide)) (.cons (ok_three (by decide) (by decide) (by decide) (by decide)) (.cons (ok_sel (by decide) (by decide) (by decide) (by decide)) (.cons (ok_three (by decide) (by decide) (by decide) (by decide)) (.cons (ok_three (by decide) (by decide) (by decide) (by decide)) (.nil _))))))
theorem ok_termC (hE:E.Ok){a b:Nat}{op low:Int}(hop:op=3\/op=4)(ha:a<E.nv)(hb:b<E.nv):okC len (termC E a b op low):=
 .cons (ok_ld hE (by decide) (by decide) ha) (.cons (ok_ld hE (by decide) (by decide) hb) (.cons (ok_three (by decide) (by decide) (by decide) (by decide)) (.cons (ok_three (by omega) (by decide) (by decide) (by decide)) (.cons (ok_three (by decide) (by decide) (by decide) (by decide)) (.nil _)))))
theorem scratch_le (hE:E.Ok):(E.scratch:Int)<=65535:=by have h1:=hE.mem_le;have:=hE.n0;unfold Env.mem at h1;omega
theorem ok_convB (hE:E.Ok){p a b:Nat}(ha:a<E.nv)(hb:b<E.nv)(hp:p+31<=len):okC len (convB E p a b):=by
 have:=scratch_le hE
 refine okC.append (.cons (ok_const (by decide)) (.cons (ok_const (by decide)) (.cons (ok_mov (by decide) (by decide)) (.nil _)))) (okC.append (ok_termC hE (.inl rfl) ha hb) (okC.append ?_ (okC.append ?_ (okC.append (ok_termC hE (.inr rfl) ha hb) (okC.append ?_ (.cons ?_ (okC.append (ok_reduce (by decide)) (.cons ?_ (.nil _)))))))))
 ·exact .cons (ok_branch (.inl rfl) (by decide) (by omega)) (.cons (ok_three (by decide) (by decide) (by decide) (by decide)) (.cons (ok_br (by omega)) (.nil _)))
 ·exact .cons (ok_three (by decide) (by decide) (by decide) (by decide)) (.cons (ok_branch (.inl rfl) (by decide) (by omega)) (.cons (ok_three (by decide) (by decide) (by decide) (by decide)) (.nil _)))
 ·exact .cons (ok_three (by decide) (by decide) (by decide) (by decide)) (.cons (ok_three (by decide) (by decide) (by decide) (by decide)) (.cons (ok_branch (.inr rfl) (by decide) (by omega)) (.nil _)))
 ·exact ok_three (by decide) (by decide) (by decide) (by decide)
 ·exact ok_st0 (by decide) (by decide) (by omega)
theorem ok_conv2B (hE:E.Ok){d:Nat}(hd:d<E.nv):okC len (conv2B E d):=by
 have:=scratch_le hE
 exact .cons (ok_ld0 (by decide) (by decide) (by omega)) (.cons (ok_st hE (by decide) (by decide) hd) (.nil _))
theorem ok_drawB (hE:E.Ok){p d T:Nat}(hd:d<E.nv)(hp:p<=len)(hT:T<=len):okC len (drawB E p d T):=by
 have h1:=scratch_le hE
 have h2:(E.fin:Int)<=65535:=by unfold Env.scratch at h1;omega
 exact .cons (ok_ld0 (by decide) (by decide) (by decide)) (.cons (ok_ld0 (by decide) (by decide) (by decide)) (.cons (ok_three (by decide) (by decide) (by decide) (by decide)) (.cons (ok_branch (.inl rfl) (by decide) (by omega)) (.cons (ok_ld0 (by decide) (by decide) (by omega)) (.cons (ok_three (by decide) (by decide) (by decide) (by decide)) (.cons (ok_st0 (by decide) (by decide) (by decide))
  (.cons (ok_three (by decide) (by decide) (by decide) (by decide)) (.cons (ok_three (by decide) (by decide) (by decide) (by decide)) (.cons (ok_branch (.inl rfl) (by decide) (by omega)) (.cons (ok_st hE (by decide) (by decide) hd) (.nil _)))))))))))
theorem ok_vec (hE:E.Ok){s:Stmt}(hs:GoodV E s){p T:Nat}(hp:p+(vecC E p T s).length<=len)(hT:T<=len):okC len (vecC E p T s):=by
 obtain⟨hop,hd,ha,hb,he,k6,k8,k11⟩:=hs
 have vd:s.d.toNat<E.nv:=by unfold isVar at hd;omega
 have va:s.op≠1->s.op≠13->s.a.toNat<E.nv:=fun h h2=>by have:=ha h h2;unfold isVar at this;omega
 have vb:s.op=3\/s.op=4\/s.op=5\/s.op=7\/s.op=10->s.b.toNat<E.nv:=fun h=>by have:=hb h;unfold isVar at this;omega
 have kk:s.op=8\/s.op=9->s.k.toNat<=63:=fun h=>by have:=k8 h;omega
 have hcases:s.op=1\/s.op=2\/s.op=3\/s.op=4\/s.op=5\/s.op=6\/s.op=7\/s.op=8\/s.op=9\/s.op=10\/s.op=11\/s.op=12\/s.op=13:=by omega
 have hl:p+5<=len/\(s.op=7->p+42<=len)/\(s.op=11->p+18<=len):=by
  by_cases h13:s.op=13
  ·have:(vecC E p T s).length=16:=by simp only [vecC,h13];rfl
   omega
  ·have:=vec_len E p T s ⟨hop.1,by omega⟩
   rw [this] at hp
   refine⟨?_,fun h=>?_,fun h=>?_⟩
   ·repeat' split at hp
    all_goals omega
   ·simp [h] at hp;exact hp
   ·simp [h] at hp;exact hp
 obtain⟨l5,l7,l11⟩:=hl
 rcases hcases with h|h|h|h|h|h|h|h|h|h|h|h|h<;> simp only [vecC,h]<;> simp
 ·exact ok_loop (ok_zeroB hE vd) (by omega)
 ·exact ok_loop (ok_copyB hE vd (va (by omega) (by omega))) (by omega)
 ·exact ok_loop (ok_addB hE vd (va (by omega) (by omega)) (vb (by omega))) (by omega)
 ·exact ok_loop (ok_subB hE vd (va (by omega) (by omega)) (vb (by omega))) (by omega)
 ·exact ok_loop (ok_mulB hE vd (va (by omega) (by omega)) (vb (by omega))) (by omega)
 ·exact .cons (ok_const (by decide)) (ok_loop (ok_scaleB hE vd (va (by omega) (by omega))) (by omega))
 ·exact .cons (ok_const (by decide)) ((ok_loop (ok_convB hE (va (by omega) (by omega)) (vb (by omega)) (by have:=l7 h;omega)) (by omega)).append (ok_loop (ok_conv2B hE vd) (by have:=l7 h;omega)))
 ·exact .cons (ok_const (by decide)) (.cons (ok_const (by decide)) (ok_loop (ok_roundB hE vd (va (by omega) (by omega)) (kk (by omega))) (by omega)))
 ·exact .cons (ok_const (by decide)) (.cons (ok_const (by decide)) (ok_loop (ok_expandB hE vd (va (by omega) (by omega)) (kk (by omega))) (by omega)))
 ·exact ok_loop (ok_pickB hE vd (va (by omega) (by omega)) (vb (by omega)) (by have:=he h;unfold isVar at this;omega)) (by omega)
 ·have:=place_le hE vd
  exact .cons (ok_const (by decide)) (.cons (ok_const (by decide)) ((ok_loop (ok_normB hE (va (by omega) (by omega))) (by omega)).append ((ok_loop (ok_zeroB hE vd) (by have:=l11 h;omega)).append (.cons (ok_st0 (by decide) (by decide) (by omega)) (.nil _)))))
 ·exact ok_loop (ok_copyB hE vd (va (by omega) (by omega))) (by omega)
 ·exact .cons (ok_const (by decide)) (ok_loop (ok_drawB hE vd (by omega) hT) (by omega))
mutual
theorem ok_stmt (hE:E.Ok){T G:Nat}(hT:T<=len)(hG:G<=len):∀ (s:Stmt) (deep p:Nat),GoodS E deep s->p+(genS E T G deep p s).length<=len->okC len (genS E T G deep p s)
 |⟨op,d,a,b,e,k,body,els⟩,deep,p,hs,hp=>by
  unfold GoodS at hs
  obtain⟨hdeep,hs⟩:=hs
  rcases hs with⟨rfl,ha,hb,he⟩|⟨rfl,k1,k2,hb⟩|⟨rfl,k1,k2,ha,hb⟩|hv
  ·unfold isVar at ha
   simp only [genS,if_true] at hp ⊢
   simp at hp
   have h1:=ok_list hE hT hG body (deep+1) (p+2) hb (by omega)
   have h2:=ok_list hE hT hG els (deep+1) (p+2+(genL E T G (deep+1) (p+2) body).length+1) he (by omega)
   refine okC.append (.cons (ok_ld hE (by decide) (by decide) (by omega)) (.cons (ok_branch (.inl rfl) (by decide) ?_) (.nil _))) (h1.append (.cons (ok_br ?_) h2))
   ·omega
   ·omega
  ·simp only [genS,show¬(15:Int)=14 by decide,if_false,if_true] at hp ⊢
   simp at hp
   have h1:=ok_list hE hT hG body (deep+1) (p+1) hb (by omega)
   exact .cons (ok_const (by omega)) (h1.append (.cons (ok_three (by decide) (by omega) (by omega) (by decide)) (.cons (ok_branch (.inr rfl) (by omega) (by omega)) (.nil _))))
  ·unfold isVar at ha
   simp only [genS,show¬(16:Int)=14 by decide,show¬(16:Int)=15 by decide,if_false,if_true] at hp ⊢
   simp at hp
   have h1:=ok_list hE hT hG body (deep+1) (p+1) hb (by omega)
   refine .cons (ok_const (by omega)) (h1.append (.cons (ok_ld hE (by decide) (by decide) (by omega)) (.cons (ok_branch (.inr rfl) (by decide) ?_) (.cons (ok_three (by decide) (by omega) (by omega) (by decide)) (.cons (ok_branch (.inr rfl) (by omega) ?_) (.cons (ok_br ?_) (.nil _)))))))
   all_goals omega
  ·have hop:=hv.op
   dsimp only at hop
   have e14:¬op=14:=by omega
   have e15:¬op=15:=by omega
   have e16:¬op=16:=by omega
   simp only [genS,e14,e15,e16,if_false] at hp ⊢
   exact ok_vec hE hv hp hT
theorem ok_list (hE:E.Ok){T G:Nat}(hT:T<=len)(hG:G<=len):∀ (l:List Stmt) (deep p:Nat),GoodL E deep l->p+(genL E T G deep p l).length<=len->okC len (genL E T G deep p l)
 |[],_,_,_,_=>by unfold genL;exact .nil _
 |s :: l,deep,p,hs,hp=>by
  unfold GoodL at hs
  simp only [genL] at hp ⊢
  simp at hp
  exact (ok_stmt hE hT hG s deep p hs.1 (by omega)).append (ok_list hE hT hG l deep _ hs.2 (by omega))
end
theorem ok_prog (hE:E.Ok){body:List Stmt}{T G:Nat}(hg:GoodL E 0 body)(hT:T<=(progC E body T G).length)(hG:G<=(progC E body T G).length):okC (progC E body T G).length (progC E body T G):=by
 generalize hn:(progC E body T G).length=n at *
 unfold progC at hn ⊢
 have hlen:bodyP body+(genL E T G 0 (bodyP body) body).length<=n:=by
  rw [<-hn];simp [bodyP];split<;> simp [beginC]<;> omega
 refine okC.append ?_ (okC.append (ok_list hE hT hG body 0 _ hg hlen) (.cons (ok_halt (by decide)) (okC.append ?_ ?_)))
 ·split
  ·exact .nil _
  ·exact .cons (ok_const (by decide)) (.cons (ok_const (by decide)) (.cons (ok_const (by decide)) (.cons (ok_const (by decide)) (.nil _))))
 ·split
  ·exact .cons (ok_halt (by decide)) (.nil _)
  ·exact .nil _
 ·split
  ·exact .cons (ok_halt (by decide)) (.nil _)
  ·exact .nil _
end
mutual
def posTS (E:Env):Nat->Nat->Stmt->List Nat
 |deep,p,⟨op,_,_,_,_,_,body,els⟩=>
  if op=14 then posTL E (deep+1) (p+2) body++posTL E (deep+1) (p+2+(genL E 0 0 (deep+1) (p+2) body).length+1) els
  else if op=15 then posTL E (deep+1) (p+1) body
  else if op=16 then posTL E (deep+1) (p+1) body
  else if op=13 then [p+5] else []
def posTL (E:Env):Nat->Nat->List Stmt->List Nat
 |_,_,[]=>[]
 |deep,p,s :: l=>posTS E deep p s++posTL E deep (p+(genS E 0 0 deep p s).length) l
end
mutual
def posGS (E:Env):Nat->Nat->Stmt->List Nat
 |deep,p,⟨op,_,_,_,_,_,body,els⟩=>
  if op=14 then posGL E (deep+1) (p+2) body++posGL E (deep+1) (p+2+(genL E 0 0 (deep+1) (p+2) body).length+1) els
  else if op=15 then posGL E (deep+1) (p+1) body
  else if op=16 then posGL E (deep+1) (p+1) body++[p+1+(genL E 0 0 (deep+1) (p+1) body).length+4]
  else []
def posGL (E:Env):Nat->Nat->List Stmt->List Nat
 |_,_,[]=>[]
 |deep,p,s :: l=>posGS E deep p s++posGL E deep (p+(genS E 0 0 deep p s).length) l
end
theorem vecC_len (E:Env)(p T T':Nat)(s:Stmt):(vecC E p T s).length=(vecC E p T' s).length:=by
 by_cases h:s.op=13
 ·simp only [vecC,h];rfl
 ·have e:vecC E p T s=vecC E p T' s:=by unfold vecC;simp only [h,if_false]
  rw [e]
mutual
theorem len_stmt (E:Env)(T G T' G':Nat):∀ (s:Stmt) (deep p:Nat),(genS E T G deep p s).length=(genS E T' G' deep p s).length
 |⟨op,d,a,b,e,k,body,els⟩,deep,p=>by
  unfold genS
  have h1:=len_list E T G T' G' body (deep+1) (p+2)
  have h3:=len_list E T G T' G' body (deep+1) (p+1)
  split
  ·simp only [h1]
   have h2:=len_list E T G T' G' els (deep+1) (p+2+(genL E T' G' (deep+1) (p+2) body).length+1)
   simp [h1,h2]
  ·split
   ·simp [h3]
   ·split
    ·simp [h3]
    ·exact vecC_len _ _ _ _ _
theorem len_list (E:Env)(T G T' G':Nat):∀ (l:List Stmt) (deep p:Nat),(genL E T G deep p l).length=(genL E T' G' deep p l).length
 |[],_,_=>by simp [genL]
 |s :: l,deep,p=>by
  have h1:=len_stmt E T G T' G' s deep p
  simp only [genL,List.length_append,h1]
  rw [len_list E T G T' G' l deep _]
end
def setK (v:Int)(i:Inst):Inst:={ i with k:=v}
def landL (out:List Inst):List Nat->Int->List Inst
 |[],_=>out
 |k :: l,v=>landL (out.modify k (setK v)) l v
theorem landL_append (out:List Inst)(l l2:List Nat)(v:Int):landL out (l++l2) v=landL (landL out l v) l2 v:=by
 induction l generalizing out with
 |nil=>rfl
 |cons k l ih=>simp only [List.cons_append,landL];exact ih _
theorem landL_length (out:List Inst)(l:List Nat)(v:Int):(landL out l v).length=out.length:=by
 induction l generalizing out with
 |nil=>rfl
 |cons k l ih=>simp only [landL];rw [ih,List.length_modify]
theorem modify_at (A B:List Inst)(i:Inst)(f:Inst->Inst):(A++(i :: B)).modify A.length f=A++(f i :: B):=by
 induction A with
 |nil=>simp
 |cons a A ih=>simp [ih]
theorem insts_append (a b:List CI):insts (a++b)=insts a++insts b:=by simp [insts]
theorem insts_length (a:List CI):(insts a).length=a.length:=by simp [insts]
theorem insts_cons (x:CI)(b:List CI):insts (x :: b)=x.1 :: insts b:=rfl
theorem draw_land (E:Env)(p d T T':Nat)(A B:List Inst)(hA:A.length=p):
  landL (A++(insts (ci 1 23 0 0 0 (2 ^ E.bits - 1) :: eachC E.n (p+1) (drawB E (p+2) d T))++B)) [p+5] T'=A++(insts (ci 1 23 0 0 0 (2 ^ E.bits - 1) :: eachC E.n (p+1) (drawB E (p+2) d T'))++B):=by
 have key:∀ T:Nat,A++(insts (ci 1 23 0 0 0 (2 ^ E.bits - 1) :: eachC E.n (p+1) (drawB E (p+2) d T))++B)=
   (A++insts [ci 1 23 0 0 0 (2 ^ E.bits - 1),ci 1 9 0 0 0 0,ci 15 12 0 0 0 1,ci 15 13 0 0 0 0,ci 13 16 12 13 0 0])++((⟨18,0,16,0,0,(T:Nat)⟩:Inst) :: (insts ([ci 15 15 12 0 0 (E.fin:Nat),(⟨3,12,12,1,0,0⟩,⟨1,4096⟩),ci 16 0 0 12 0 1,
  ci 7 15 15 23 0 0,ci 13 16 15 19 0 0,ci 18 0 16 0 0 ((p+2:Nat):Int),stC E 15 d]++[upC E.n 9,ci 13 16 9 10 0 0,ci 19 0 16 0 0 ((p+1+1:Nat):Int)])++B)):=by
  intro T
  simp [insts,eachC,drawB,ci]
 rw [key T,key T']
 have e:p+5=(A++insts [ci 1 23 0 0 0 (2 ^ E.bits - 1),ci 1 9 0 0 0 0,ci 15 12 0 0 0 1,ci 15 13 0 0 0 0,ci 13 16 12 13 0 0]).length:=by simp [insts,hA]
 simp only [landL]
 rw [e,modify_at]
 rfl
mutual
theorem landT_stmt (E:Env)(G T':Nat):∀ (s:Stmt) (deep p:Nat) (A B:List Inst),A.length=p->landL (A++(insts (genS E 0 G deep p s)++B)) (posTS E deep p s) T'=A++(insts (genS E T' G deep p s)++B)
 |⟨op,d,a,b,e,k,body,els⟩,deep,p,A,B,hA=>by
  unfold genS posTS
  split
  ·dsimp only
   have l1:=len_list E 0 G 0 0 body (deep+1) (p+2)
   have l2:=len_list E T' G 0 0 body (deep+1) (p+2)
   rw [l1,l2]
   have l3:=len_list E 0 G T' G els (deep+1) (p+2+(genL E 0 0 (deep+1) (p+2) body).length+1)
   rw [l3]
   simp only [insts_append,insts_cons,List.append_assoc,landL_append]
   have h1:=landT_list E G T' body (deep+1) (p+2)
   have h2:=landT_list E G T' els (deep+1) (p+2+(genL E 0 0 (deep+1) (p+2) body).length+1)
   rw [<-List.append_assoc A,h1 _ _ (by simp [insts,hA])]
   have:=h2 (A++insts [ci 15 12 0 0 0 (E.place a.toNat:Nat),ci 18 0 12 0 0 ((p+2+(genL E 0 0 (deep+1) (p+2) body).length+1:Nat):Int)]++(insts (genL E T' G (deep+1) (p+2) body)++[(ci 17 0 0 0 0 ((p+2+(genL E 0 0 (deep+1) (p+2) body).length+1+(genL E T' G (deep+1) (p+2+(genL E 0 0 (deep+1) (p+2) body).length+1) els).length:Nat):Int)).1])) B (by simp [insts_length,l2,hA];omega)
   simp only [List.append_assoc,List.cons_append,List.nil_append] at this ⊢
   exact this
  ·split
   ·have l1:=len_list E 0 G T' G body (deep+1) (p+1)
    simp only [insts_append,insts_cons,List.append_assoc,List.cons_append]
    have h1:=landT_list E G T' body (deep+1) (p+1) (A++[(ci 1 (2+deep:Nat) 0 0 0 k).1]) (insts [(⟨4,(2+deep:Nat),(2+deep:Nat),1,0,0⟩,⟨0,k⟩),ci 19 0 (2+deep:Nat) 0 0 ((p+1:Nat):Int)]++B) (by simp [hA])
    simp only [List.append_assoc,List.cons_append,List.nil_append] at h1 ⊢
    exact h1
   ·split
    ·have l1:=len_list E 0 G T' G body (deep+1) (p+1)
     dsimp only
     rw [l1]
     simp only [insts_append,insts_cons,List.append_assoc,List.cons_append]
     have h1:=landT_list E G T' body (deep+1) (p+1) (A++[(ci 1 (2+deep:Nat) 0 0 0 k).1]) (insts [ci 15 12 0 0 0 (E.place a.toNat:Nat),ci 19 0 12 0 0 ((p+1+(genL E T' G (deep+1) (p+1) body).length+5:Nat):Int),
    (⟨4,(2+deep:Nat),(2+deep:Nat),1,0,0⟩,⟨0,k⟩),ci 19 0 (2+deep:Nat) 0 0 ((p+1:Nat):Int),ci 17 0 0 0 0 (G:Nat)]++B) (by simp [hA])
     simp only [List.append_assoc,List.cons_append,List.nil_append,insts_cons] at h1 ⊢
     exact h1
    ·split
     ·rename_i h13
      subst h13
      have:=draw_land E p d.toNat 0 T' A B hA
      simp only [vecC]
      simp only [show¬(13:Int)=1 by decide,show¬((13:Int)=2\/(13:Int)=12) by decide,show¬(13:Int)=3 by decide,show¬(13:Int)=4 by decide,show¬(13:Int)=5 by decide,show¬(13:Int)=6 by decide,
       show¬(13:Int)=7 by decide,show¬(13:Int)=8 by decide,show¬(13:Int)=9 by decide,show¬(13:Int)=10 by decide,show¬(13:Int)=11 by decide,if_false,if_true]
      exact this
     ·rename_i h13
      have e1:vecC E p 0 ⟨op,d,a,b,e,k,[],[]⟩=vecC E p T' ⟨op,d,a,b,e,k,[],[]⟩:=by unfold vecC;simp only [h13,if_false]
      rw [e1];rfl
theorem landT_list (E:Env)(G T':Nat):∀ (l:List Stmt) (deep p:Nat) (A B:List Inst),A.length=p->landL (A++(insts (genL E 0 G deep p l)++B)) (posTL E deep p l) T'=A++(insts (genL E T' G deep p l)++B)
 |[],_,_,A,B,_=>by simp [genL,posTL,landL,insts]
 |s :: l,deep,p,A,B,hA=>by
  simp only [genL,posTL,landL_append,insts_append,List.append_assoc]
  have l1:=len_stmt E 0 G 0 0 s deep p
  have l2:=len_stmt E T' G 0 0 s deep p
  rw [l1,l2]
  rw [landT_stmt E G T' s deep p A _ hA]
  have:=landT_list E G T' l deep (p+(genS E 0 0 deep p s).length) (A++insts (genS E T' G deep p s)) B (by simp [insts_length,l2,hA])
  simp only [List.append_assoc] at this
  exact this
end
mutual
theorem landG_stmt (E:Env)(T G':Nat):∀ (s:Stmt) (deep p:Nat) (A B:List Inst),A.length=p->landL (A++(insts (genS E T 0 deep p s)++B)) (posGS E deep p s) G'=A++(insts (genS E T G' deep p s)++B)
 |⟨op,d,a,b,e,k,body,els⟩,deep,p,A,B,hA=>by
  unfold genS posGS
  split
  ·dsimp only
   have l1:=len_list E T 0 0 0 body (deep+1) (p+2)
   have l2:=len_list E T G' 0 0 body (deep+1) (p+2)
   rw [l1,l2]
   have l3:=len_list E T 0 T G' els (deep+1) (p+2+(genL E 0 0 (deep+1) (p+2) body).length+1)
   rw [l3]
   simp only [insts_append,insts_cons,List.append_assoc,landL_append]
   have h1:=landG_list E T G' body (deep+1) (p+2)
   have h2:=landG_list E T G' els (deep+1) (p+2+(genL E 0 0 (deep+1) (p+2) body).length+1)
   rw [<-List.append_assoc A,h1 _ _ (by simp [insts,hA])]
   have:=h2 (A++insts [ci 15 12 0 0 0 (E.place a.toNat:Nat),ci 18 0 12 0 0 ((p+2+(genL E 0 0 (deep+1) (p+2) body).length+1:Nat):Int)]++(insts (genL E T G' (deep+1) (p+2) body)++[(ci 17 0 0 0 0 ((p+2+(genL E 0 0 (deep+1) (p+2) body).length+1+(genL E T G' (deep+1) (p+2+(genL E 0 0 (deep+1) (p+2) body).length+1) els).length:Nat):Int)).1])) B (by simp [insts_length,l2,hA];omega)
   simp only [List.append_assoc,List.cons_append,List.nil_append] at this ⊢
   exact this
  ·split
   ·have l1:=len_list E T 0 T G' body (deep+1) (p+1)
    simp only [insts_append,insts_cons,List.append_assoc,List.cons_append]
    have h1:=landG_list E T G' body (deep+1) (p+1) (A++[(ci 1 (2+deep:Nat) 0 0 0 k).1]) (insts [(⟨4,(2+deep:Nat),(2+deep:Nat),1,0,0⟩,⟨0,k⟩),ci 19 0 (2+deep:Nat) 0 0 ((p+1:Nat):Int)]++B) (by simp [hA])
    simp only [List.append_assoc,List.cons_append,List.nil_append] at h1 ⊢
    exact h1
   ·split
    ·have l1:=len_list E T 0 T G' body (deep+1) (p+1)
     have l0:=len_list E 0 0 T G' body (deep+1) (p+1)
     dsimp only
     rw [l1,l0]
     simp only [insts_append,insts_cons,List.append_assoc,List.cons_append,landL_append]
     have h1:=landG_list E T G' body (deep+1) (p+1) (A++[(ci 1 (2+deep:Nat) 0 0 0 k).1]) (insts [ci 15 12 0 0 0 (E.place a.toNat:Nat),ci 19 0 12 0 0 ((p+1+(genL E T G' (deep+1) (p+1) body).length+5:Nat):Int),
    (⟨4,(2+deep:Nat),(2+deep:Nat),1,0,0⟩,⟨0,k⟩),ci 19 0 (2+deep:Nat) 0 0 ((p+1:Nat):Int),ci 17 0 0 0 0 ((0:Nat):Int)]++B) (by simp [hA])
     simp only [List.append_assoc,List.cons_append,List.nil_append,insts_cons] at h1 ⊢
     rw [h1]
     have e2:∀ Z:Inst,A++((ci 1 (2+deep:Nat) 0 0 0 k).1 :: (insts (genL E T G' (deep+1) (p+1) body)++((ci 15 12 0 0 0 (E.place a.toNat:Nat)).1 :: (ci 19 0 12 0 0 ((p+1+(genL E T G' (deep+1) (p+1) body).length+5:Nat):Int)).1 ::
      (⟨4,(2+deep:Nat),(2+deep:Nat),1,0,0⟩:Inst) :: (ci 19 0 (2+deep:Nat) 0 0 ((p+1:Nat):Int)).1 :: Z :: (insts []++B))))=
      (A++((ci 1 (2+deep:Nat) 0 0 0 k).1 :: (insts (genL E T G' (deep+1) (p+1) body)++[(ci 15 12 0 0 0 (E.place a.toNat:Nat)).1,(ci 19 0 12 0 0 ((p+1+(genL E T G' (deep+1) (p+1) body).length+5:Nat):Int)).1,
      (⟨4,(2+deep:Nat),(2+deep:Nat),1,0,0⟩:Inst),(ci 19 0 (2+deep:Nat) 0 0 ((p+1:Nat):Int)).1])))++(Z :: (insts []++B)):=by intro Z;simp
     simp only [landL]
     rw [e2,e2]
     have e3:p+1+(genL E T G' (deep+1) (p+1) body).length+4=(A++((ci 1 (2+deep:Nat) 0 0 0 k).1 :: (insts (genL E T G' (deep+1) (p+1) body)++[(ci 15 12 0 0 0 (E.place a.toNat:Nat)).1,(ci 19 0 12 0 0 ((p+1+(genL E T G' (deep+1) (p+1) body).length+5:Nat):Int)).1,
      (⟨4,(2+deep:Nat),(2+deep:Nat),1,0,0⟩:Inst),(ci 19 0 (2+deep:Nat) 0 0 ((p+1:Nat):Int)).1]))).length:=by simp [insts_length,hA];omega
     rw [e3,modify_at]
     rfl
    ·rfl
theorem landG_list (E:Env)(T G':Nat):∀ (l:List Stmt) (deep p:Nat) (A B:List Inst),A.length=p->landL (A++(insts (genL E T 0 deep p l)++B)) (posGL E deep p l) G'=A++(insts (genL E T G' deep p l)++B)
 |[],_,_,A,B,_=>by simp [genL,posGL,landL,insts]
 |s :: l,deep,p,A,B,hA=>by
  simp only [genL,posGL,landL_append,insts_append,List.append_assoc]
  have l1:=len_stmt E T 0 0 0 s deep p
  have l2:=len_stmt E T G' 0 0 s deep p
  rw [l1,l2]
  rw [landG_stmt E T G' s deep p A _ hA]
  have:=landG_list E T G' l deep (p+(genS E 0 0 deep p s).length) (A++insts (genS E T G' deep p s)) B (by simp [insts_length,l2,hA])
  simp only [List.append_assoc] at this
  exact this
end
structure Var where
 kind:Int
 secret:Bool
deriving DecidableEq,Repr,Inhabited
structure Prog where
 q:Int
 n:Int
 vars:List Var
 body:List Stmt
structure Fault where
 code:Int
 placed:Bool
 pos:Int
deriving DecidableEq,Repr,Inhabited
def Fault.fine:Fault:=⟨0,false,0⟩
def Fault.bare (c:Int):Fault:=⟨c,false,0⟩
def Fault.at_ (c:Int)(i:Int):Fault:=⟨c,true,i⟩
def isPrime (q:Int):Bool:=q == 17 || q == 97 || q == 257 || q == 3329 || q == 7681 || q == 12289 || q == 8380417
def isSize (n:Int):Bool:=n == 4 || n == 8 || n == 16 || n == 32 || n == 64 || n == 128 || n == 256
def ringOk (q n:Int):Bool:=isPrime q && isSize n
mutual
def flatS:Stmt->List Stmt
 |⟨op,d,a,b,c,k,body,els⟩=>⟨op,d,a,b,c,k,body,els⟩ :: (flatL body++flatL els)
def flatL:List Stmt->List Stmt
 |[]=>[]
 |s :: l=>flatS s++flatL l
end
mutual
def depthS:Stmt->Int
 |⟨_,_,_,_,_,_,body,els⟩=>max 0 (max (depthL body) (depthL els)+1)
def depthL:List Stmt->Int
 |[]=> -1
 |s :: l=>max (depthS s) (depthL l)
end
structure Has where
 d:Bool
 a:Bool
 b:Bool
 c:Bool
 k:Bool
 body:Bool
 other:Bool
deriving DecidableEq,Repr
def hasOf (op:Int):Option Has:=
 if op=1\/op=13 then some ⟨true,false,false,false,false,false,false⟩ else
 if op=2\/op=12 then some ⟨true,true,false,false,false,false,false⟩ else
 if op=3\/op=4\/op=5\/op=7 then some ⟨true,true,true,false,false,false,false⟩ else
 if op=6\/op=8\/op=9\/op=11 then some ⟨true,true,false,false,true,false,false⟩ else
 if op=10 then some ⟨true,true,true,true,false,false,false⟩ else
 if op=14 then some ⟨false,true,false,false,false,true,true⟩ else
 if op=15 then some ⟨false,false,false,false,true,true,false⟩ else
 if op=16 then some ⟨false,true,false,false,true,true,false⟩ else none
def usesOf (s:Stmt):List Int:=
 match hasOf s.op with
 |none=>[]
 |some h=>(if h.a then [s.a] else [])++((if h.b then [s.b] else [])++(if h.c then [s.c] else []))
def numOk (q:Int)(s:Stmt):Bool:=
 if s.op=6 then decide (0<=s.k/\s.k<q) else
 if s.op=8\/s.op=9 then decide (1<=s.k/\s.k<=30/\(2:Int) ^ s.k.toNat<q) else
 if s.op=11 then decide (0<=s.k/\s.k<=q) else
 if s.op=15\/s.op=16 then decide (1<=s.k/\s.k<=50) else true
def varAt (vars:List Var)(v:Int):Var:=vars.getD v.toNat ⟨0,false⟩
def oneF (q:Int)(vars:List Var)(s:Stmt):Int:=
 match hasOf s.op with
 |none=>106
 |some h=>
  if (usesOf s++(if h.d then [s.d] else [])).any (fun v=>decide (v<0\/v>=vars.length)) then 107 else
  if (!h.d && s.d !=0) || (!h.a && s.a !=0) || (!h.b && s.b !=0) || (!h.c && s.c !=0) || (!h.k && s.k !=0) || (!h.body && !s.body.isEmpty) || (!h.other && !s.els.isEmpty) then 104 else
  if h.d && (varAt vars s.d).kind == 1 then 104 else
  if !numOk q s then 101 else 0
def firstF (f:Stmt->Int):List Stmt->Int->Fault
 |[],_=> .fine
 |s :: l,i=>if f s≠0 then .at_ (f s) i else firstF f l (i+1)
def firstK:List Var->Int->Fault
 |[],_=> .fine
 |v :: l,i=>if v.kind=1\/v.kind=2\/v.kind=3 then firstK l (i+1) else .at_ 101 i
def validF (p:Prog):Fault:=
 if !ringOk p.q p.n then .bare 101 else
 if p.vars.length > 12 then .bare 103 else
 if (firstK p.vars 0).code≠0 then firstK p.vars 0 else
 if (flatL p.body).length > 100\/depthL p.body > 6 then .bare 103 else
 firstF (oneF p.q p.vars) (flatL p.body) 0
def breaksB (vars:List Var)(s:Stmt):Bool:=
 let secret:=(usesOf s).any fun v=>(varAt vars v).secret
 if s.op=12 then false else
 if s.op=13 then !(varAt vars s.d).secret else
 if 1<=s.op/\s.op<=11 then secret && !(varAt vars s.d).secret else secret
def checkF (p:Prog):Fault:=
 if (validF p).code≠0 then validF p else firstF (fun s=>if breaksB p.vars s then 108 else 0) (flatL p.body) 0
theorem firstF_fine {f:Stmt->Int}:∀ (l:List Stmt) (i:Int),(firstF f l i).code=0->∀ s∈l,f s=0:=by
 intro l
 induction l with
 |nil=>intro i _ s hs;simp at hs
 |cons s l ih=>
  intro i h t ht
  unfold firstF at h
  split at h
  ·rename_i h1;exact absurd h h1
  ·rename_i h1
   rcases List.mem_cons.1 ht with rfl|ht
   ·simpa using h1
   ·exact ih _ h t ht
def envOf (p:Prog)(bits:Nat):Env:=⟨p.q.toNat,p.n.toNat,p.vars.length,bits⟩
theorem ite_zero {c:Prop} [Decidable c]{a b:Int}(h:(if c then a else b)=0)(ha:a≠0):¬c/\b=0:=by
 by_cases hc:c
 ·rw [if_pos hc] at h;exact absurd h ha
 ·rw [if_neg hc] at h;exact⟨hc,h⟩
theorem oneF_parts {q:Int}{vars:List Var}{s:Stmt}(h:oneF q vars s=0):∃ g,hasOf s.op=some g/\(∀ v∈usesOf s++(if g.d then [s.d] else []),0<=v/\v<vars.length)/\numOk q s=true/\(g.d=true->(varAt vars s.d).kind≠1):=by
 unfold oneF at h
 cases hg:hasOf s.op with
 |none=>rw [hg] at h;simp at h
 |some g=>
  rw [hg] at h
  dsimp only at h
  obtain⟨h1,h⟩:=ite_zero h (by decide)
  obtain⟨_,h⟩:=ite_zero h (by decide)
  obtain⟨h3,h⟩:=ite_zero h (by decide)
  obtain⟨h2,_⟩:=ite_zero h (by decide)
  refine⟨g,rfl,fun v hv=>?_,by simpa using h2,fun hd hk=>h3 (by simp [hd,hk])⟩
  have h4:¬(v<0\/v>=vars.length):=fun hh=>h1 (List.any_eq_true.2 ⟨v,hv,by simpa using hh⟩)
  omega
theorem oneF_good {E:Env}{q:Int}{vars:List Var}{s:Stmt}(hE:(E.q:Int)=q)(hv:E.nv=vars.length)(h:oneF q vars s=0):
  (s.op=14->isVar E s.a)/\(s.op=15->1<=s.k/\s.k<=50)/\(s.op=16->1<=s.k/\s.k<=50/\isVar E s.a)/\(1<=s.op/\s.op<=16)/\(s.op<=13->GoodV E ⟨s.op,s.d,s.a,s.b,s.c,s.k,[],[]⟩):=by
 obtain⟨g,hg,hvars,hnum,_⟩:=oneF_parts h
 obtain⟨op,d,a,b,c,k,body,els⟩:=s
 dsimp only at hg ⊢
 have hop:1<=op/\op<=16:=by
  rcases Decidable.em (1<=op/\op<=16) with h1|h1
  ·exact h1
  ·have:hasOf op=none:=by unfold hasOf;repeat' (rw [if_neg (by omega)])
   rw [this] at hg;simp at hg
 have hcases:op=1\/op=2\/op=3\/op=4\/op=5\/op=6\/op=7\/op=8\/op=9\/op=10\/op=11\/op=12\/op=13\/op=14\/op=15\/op=16:=by omega
 have hvar:∀ v,0<=v/\v<(vars.length:Int)->isVar E v:=fun v hh=>by unfold isVar;omega
 rcases hcases with e|e|e|e|e|e|e|e|e|e|e|e|e|e|e|e<;> subst e<;> simp [hasOf] at hg<;> subst hg<;> simp [usesOf,hasOf] at hvars<;> simp [numOk] at hnum<;>
  refine⟨fun hh=>?_,fun hh=>?_,fun hh=>?_,hop,fun hh=>?_⟩<;> first|omega|exact hvar _ hvars|exact hnum|exact⟨hnum.1,hnum.2,hvar _ hvars⟩|skip
 all_goals
  refine⟨by dsimp only;omega,?_,fun h1 h2=>?_,fun h1=>?_,fun h1=>?_,fun h1=>?_,fun h1=>?_,fun h1=>?_⟩<;> dsimp only at * <;>
  first|omega|exact hvar _ hvars|exact hvar _ hvars.1|exact hvar _ hvars.2|exact hvar _ hvars.2.1|exact hvar _ hvars.2.2|exact hvar _ hvars.2.2.1|exact hvar _ hvars.2.2.2|(rw [hE];exact hnum)|skip
mutual
theorem good_stmt {E:Env}{q:Int}{vars:List Var}(hE:(E.q:Int)=q)(hv:E.nv=vars.length):∀ (s:Stmt) (deep:Nat),(∀ t∈flatS s,oneF q vars t=0)->(deep:Int)+depthS s<=6->GoodS E deep s
 |⟨op,d,a,b,c,k,body,els⟩,deep,h,hd=>by
  have h0:=h ⟨op,d,a,b,c,k,body,els⟩ (by simp [flatS])
  obtain⟨g1,g2,g3,g4,g5⟩:=oneF_good hE hv h0
  dsimp only at g1 g2 g3 g4 g5
  simp only [depthS] at hd
  have hb:∀ t∈flatL body,oneF q vars t=0:=fun t ht=>h t (by simp [flatS,ht])
  have he:∀ t∈flatL els,oneF q vars t=0:=fun t ht=>h t (by simp [flatS,ht])
  have b1:=good_list hE hv body (deep+1) hb (by omega)
  have b2:=good_list hE hv els (deep+1) he (by omega)
  unfold GoodS
  refine⟨by omega,?_⟩
  have:op=14\/op=15\/op=16\/op<=13:=by omega
  rcases this with e|e|e|e
  ·exact .inl ⟨e,g1 e,b1,b2⟩
  ·exact .inr (.inl ⟨e,(g2 e).1,(g2 e).2,b1⟩)
  ·exact .inr (.inr (.inl ⟨e,(g3 e).1,(g3 e).2.1,(g3 e).2.2,b1⟩))
  ·exact .inr (.inr (.inr (g5 e)))
theorem good_list {E:Env}{q:Int}{vars:List Var}(hE:(E.q:Int)=q)(hv:E.nv=vars.length):∀ (l:List Stmt) (deep:Nat),(∀ t∈flatL l,oneF q vars t=0)->(deep:Int)+depthL l<=6->GoodL E deep l
 |[],_,_,_=>by unfold GoodL;trivial
 |s :: l,deep,h,hd=>by
  simp only [depthL] at hd
  unfold GoodL
  exact⟨good_stmt hE hv s deep (fun t ht=>h t (by simp [flatL,ht])) (by omega),good_list hE hv l deep (fun t ht=>h t (by simp [flatL,ht])) (by omega)⟩
end
theorem prime_facts {q:Int}(h:isPrime q=true):17<=q/\q<8388608:=by
 simp [isPrime] at h;omega
theorem size_facts {n:Int}(h:isSize n=true):4<=n/\n<=256:=by
 simp [isSize] at h;omega
structure Fine (p:Prog):Prop where
 q:17<=p.q/\p.q<8388608
 n:4<=p.n/\p.n<=256
 prime:isPrime p.q=true
 size:isSize p.n=true
 vars:p.vars.length<=12
 kinds:∀ v∈p.vars,v.kind=1\/v.kind=2\/v.kind=3
 flat:(flatL p.body).length<=100
 depth:depthL p.body<=6
 one:∀ s∈flatL p.body,oneF p.q p.vars s=0
 secret:∀ s∈flatL p.body,breaksB p.vars s=false
theorem firstK_fine:∀ (l:List Var) (i:Int),(firstK l i).code=0->∀ v∈l,v.kind=1\/v.kind=2\/v.kind=3:=by
 intro l
 induction l with
 |nil=>intro i _ v hv;simp at hv
 |cons s l ih=>
  intro i h t ht
  unfold firstK at h
  split at h
  ·rename_i h1
   rcases List.mem_cons.1 ht with rfl|ht
   ·exact h1
   ·exact ih _ h t ht
  ·simp [Fault.at_] at h
theorem fine_of_check {p:Prog}(h:(checkF p).code=0):Fine p:=by
 unfold checkF at h
 by_cases hv:(validF p).code≠0
 ·rw [if_pos hv] at h;exact absurd h hv
 rw [if_neg hv] at h
 have hv:(validF p).code=0:=by omega
 unfold validF at hv
 by_cases h1:(!ringOk p.q p.n)=true
 ·rw [if_pos h1] at hv;simp [Fault.bare] at hv
 rw [if_neg h1] at hv
 by_cases h2:p.vars.length > 12
 ·rw [if_pos h2] at hv;simp [Fault.bare] at hv
 rw [if_neg h2] at hv
 by_cases h3:(firstK p.vars 0).code≠0
 ·rw [if_pos h3] at hv;exact absurd hv h3
 rw [if_neg h3] at hv
 by_cases h4:(flatL p.body).length > 100\/depthL p.body > 6
 ·rw [if_pos h4] at hv;simp [Fault.bare] at hv
 rw [if_neg h4] at hv
 have hr:isPrime p.q=true/\isSize p.n=true:=by simpa [ringOk] using h1
 refine⟨prime_facts hr.1,size_facts hr.2,hr.1,hr.2,by omega,firstK_fine _ 0 (by simpa using h3),by omega,by omega,firstF_fine _ _ hv,fun s hs=>?_⟩
 have:=firstF_fine _ _ h s hs
 cases hb:breaksB p.vars s with
 |false=>rfl
 |true=>rw [hb] at this;simp at this
def bitsOf (q:Int):Nat:=if q=17 then 5 else if q=97 then 7 else if q=257 then 9 else if q=3329 then 12 else if q=7681 then 13 else if q=12289 then 14 else 23
theorem env_ok {p:Prog}(h:Fine p):(envOf p (bitsOf p.q)).Ok:=by
 have:=h.q;have:=h.n;have:=h.vars
 have hp:=h.prime
 simp [isPrime] at hp
 refine⟨?_,?_,?_,?_,?_,?_,?_⟩<;> simp only [envOf]
 ·omega
 ·omega
 ·omega
 ·omega
 ·omega
 ·unfold bitsOf;repeat' split
  all_goals omega
 ·rcases hp with (((((e|e)|e)|e)|e)|e)|e<;> simp [bitsOf,e]
theorem good_prog {p:Prog}(h:Fine p)(bits:Nat):GoodL (envOf p bits) 0 p.body:=
 good_list (q:=p.q) (vars:=p.vars) (by have:=h.q;simp [envOf];omega) rfl _ _ h.one (by have:=h.depth;omega)
end Go.Proofs.YtkplfaionpplaaaGreatDoor.Al
