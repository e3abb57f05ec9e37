/- Part 1: P1, P2, P3, P4, P5, P6. -/
set_option linter.unusedVariables false
set_option linter.unusedSimpArgs false
namespace Go.Proofs.YtkplfaionpplaaaGreatDoor.Al
structure Inst where
 op:Int
 d:Int
 a:Int
 b:Int
 c:Int
 k:Int
deriving DecidableEq,Repr,Inhabited
structure Span where
 low:Int
 high:Int
deriving DecidableEq,Repr,Inhabited
structure Leak where
 kind:Int
 at_:Int
deriving DecidableEq,Repr,Inhabited
def sgn (a:Int):Int:=if a<9223372036854775808 then a else a - 18446744073709551616
def wrapU (n:Int):Int:=n % 18446744073709551616
def upd (f:Nat->Int)(i:Nat)(v:Int):Nat->Int:=fun j=>if j=i then v else f j
theorem upd_same (f:Nat->Int)(i:Nat)(v:Int):upd f i v i=v:=by simp [upd]
theorem upd_ne (f:Nat->Int)(i j:Nat)(v:Int)(h:j≠i):upd f i v j=f j:=by simp [upd,h]
def wand (a b:Int):Int:=((a.toNat &&& b.toNat:Nat):Int)
def wor (a b:Int):Int:=((a.toNat ||| b.toNat:Nat):Int)
def wxor (a b:Int):Int:=((a.toNat ^^^ b.toNat:Nat):Int)
def wvalue (i:Inst)(a b c:Int):Int:=
 if i.op=1 then wrapU i.k else
 if i.op=2 then a else
 if i.op=3 then wrapU (a+b) else
 if i.op=4 then wrapU (a - b) else
 if i.op=5 then wrapU (a * b) else
 if i.op=6 then a * b / 18446744073709551616 else
 if i.op=7 then wand a b else
 if i.op=8 then wor a b else
 if i.op=9 then wxor a b else
 if i.op=13 then (if a<b then 1 else 0) else
 if i.op=14 then (if a≠0 then b else c) else
 if 0<=i.k/\i.k<=63 then
  if i.op=10 then wrapU (a * 2 ^ i.k.toNat) else
  if i.op=11 then a / 2 ^ i.k.toNat else
  if i.op=12 then wrapU (sgn a / 2 ^ i.k.toNat) else 0
 else 0
def inI64 (n:Int):Prop:= -9223372036854775808<=n/\n<=9223372036854775807
instance (n:Int):Decidable (inI64 n):=by unfold inI64;infer_instance
def inside (i:Inst)(s:Span)(a b:Int):Prop:=
 if i.op=3 then inI64 (sgn a+sgn b)/\s.low<=sgn a+sgn b/\sgn a+sgn b<=s.high else
 if i.op=4 then inI64 (sgn a - sgn b)/\s.low<=sgn a - sgn b/\sgn a - sgn b<=s.high else
 if i.op=5 then inI64 (sgn a * sgn b)/\s.low<=sgn a * sgn b/\sgn a * sgn b<=s.high else
 if i.op=10 then 0<=i.k/\i.k<=63/\inI64 (sgn a * 2 ^ i.k.toNat)/\s.low<=sgn a * 2 ^ i.k.toNat/\sgn a * 2 ^ i.k.toNat<=s.high else
 True
structure Cfg where
 pc:Nat
 r:Nat->Int
 m:Nat->Int
abbrev CI:=Inst×Span
inductive Step (c:List CI)(M:Nat):Cfg->List Leak->Cfg->Prop
 |plain {s:Cfg} {i:Inst} {p:Span} (hc:c[s.pc]?=some (i,p)) (h1:1<=i.op) (h2:i.op<=14)
  (hw:inside i p (s.r i.a.toNat) (s.r i.b.toNat)):
  Step c M s [⟨1,s.pc⟩] ⟨s.pc+1,upd s.r i.d.toNat (wvalue i (s.r i.a.toNat) (s.r i.b.toNat) (s.r i.c.toNat)),s.m⟩
 |ld {s:Cfg} {i:Inst} {p:Span} {at_:Nat} (hc:c[s.pc]?=some (i,p)) (ho:i.op=15) (ha:wrapU (s.r i.a.toNat+i.k)=at_) (hM:at_<M):
  Step c M s [⟨1,s.pc⟩,⟨3,at_⟩] ⟨s.pc+1,upd s.r i.d.toNat (s.m at_),s.m⟩
 |st {s:Cfg} {i:Inst} {p:Span} {at_:Nat} (hc:c[s.pc]?=some (i,p)) (ho:i.op=16) (ha:wrapU (s.r i.a.toNat+i.k)=at_) (hM:at_<M):
  Step c M s [⟨1,s.pc⟩,⟨3,at_⟩] ⟨s.pc+1,s.r,upd s.m at_ (s.r i.b.toNat)⟩
 |br {s:Cfg} {i:Inst} {p:Span} {t:Nat} (hc:c[s.pc]?=some (i,p)) (ho:i.op=17) (hk:i.k=t):Step c M s [⟨1,s.pc⟩] ⟨t,s.r,s.m⟩
 |bgo {s:Cfg} {i:Inst} {p:Span} {t:Nat} (hc:c[s.pc]?=some (i,p)) (ho:i.op=18/\s.r i.a.toNat=0\/i.op=19/\s.r i.a.toNat≠0) (hk:i.k=t):Step c M s [⟨1,s.pc⟩,⟨2,1⟩] ⟨t,s.r,s.m⟩
 |bno {s:Cfg} {i:Inst} {p:Span} (hc:c[s.pc]?=some (i,p)) (ho:i.op=18/\s.r i.a.toNat≠0\/i.op=19/\s.r i.a.toNat=0):Step c M s [⟨1,s.pc⟩,⟨2,0⟩] ⟨s.pc+1,s.r,s.m⟩
inductive Steps (c:List CI)(M:Nat):Cfg->Nat->List Leak->Cfg->Prop
 |refl (s:Cfg):Steps c M s 0 [] s
 |step {s s1 s2:Cfg} {n:Nat} {l l2:List Leak} (h:Step c M s l s1) (t:Steps c M s1 n l2 s2):Steps c M s (n+1) (l++l2) s2
theorem Steps.trans {c:List CI}{M:Nat}{s s1 s2:Cfg}{n n2:Nat}{l l2:List Leak}(h:Steps c M s n l s1)(t:Steps c M s1 n2 l2 s2):
  Steps c M s (n+n2) (l++l2) s2:=by
 induction h with
 |refl s=>simpa using t
 |step h _ ih=>
  have:=Steps.step h (ih t)
  rw [List.append_assoc]
  rw [show ∀ a b:Nat,a+1+b=a+b+1 from by omega]
  exact this
def W (c:List CI)(M:Nat)(s:Cfg)(Q:Nat->List Leak->Cfg->Prop):Prop:=∃ n l s',Steps c M s n l s'/\Q n l s'
section
variable {c:List CI} {M:Nat} {s:Cfg} {Q:Nat->List Leak->Cfg->Prop}
theorem W.done (h:Q 0 [] s):W c M s Q:=⟨0,[],s,.refl s,h⟩
theorem W.mono {Q':Nat->List Leak->Cfg->Prop}(h:W c M s Q)(hq:∀ n l s,Q n l s->Q' n l s):W c M s Q':=
 let ⟨n,l,s',h1,h2⟩:=h;⟨n,l,s',h1,hq _ _ _ h2⟩
theorem W.bind {s:Cfg}{Q1:Nat->List Leak->Cfg->Prop}(h:W c M s Q1)(hq:∀ n l s1,Q1 n l s1->W c M s1 (fun n2 l2 s2=>Q (n+n2) (l++l2) s2)):W c M s Q:=by
 obtain⟨n,l,s1,h1,h2⟩:=h
 obtain⟨n2,l2,s2,h3,h4⟩:=hq _ _ _ h2
 exact⟨_,_,s2,h1.trans h3,h4⟩
theorem W.step {s1:Cfg}{l:List Leak}(h:Step c M s l s1)(h2:W c M s1 (fun n l2 s2=>Q (n+1) (l++l2) s2)):W c M s Q:=by
 obtain⟨n,l2,s2,h3,h4⟩:=h2
 exact⟨_,_,s2,.step h h3,h4⟩
end
def At (c:List CI)(p:Nat)(l:List CI):Prop:=∀ i x,l[i]?=some x->c[p+i]?=some x
theorem At.head {c:List CI}{p:Nat}{x:CI}{l:List CI}(h:At c p (x :: l)):c[p]?=some x:=h 0 x rfl
theorem At.tail {c:List CI}{p:Nat}{x:CI}{l:List CI}(h:At c p (x :: l)):At c (p+1) l:=fun i y hy=>by
 have:=h (i+1) y (by simpa using hy)
 rwa [show p+(i+1)=p+1+i from by omega] at this
theorem At.left {c:List CI}{p:Nat}{l l2:List CI}(h:At c p (l++l2)):At c p l:=fun i x hx=>h i x (by
 rw [List.getElem?_append_left (List.getElem?_eq_some_iff.1 hx).1];exact hx)
theorem At.right {c:List CI}{p:Nat}{l l2:List CI}(h:At c p (l++l2)):At c (p+l.length) l2:=fun i x hx=>by
 have:=h (l.length+i) x (by rw [List.getElem?_append_right (by omega)];simpa using hx)
 rwa [<-Nat.add_assoc] at this
theorem At.nil (c:List CI)(p:Nat):At c p []:=fun i x hx=>by simp at hx
theorem At.append {c:List CI}{p:Nat}{l l2:List CI}(h:At c p l)(h2:At c (p+l.length) l2):At c p (l++l2):=fun i x hx=>by
 by_cases hi:i<l.length
 ·rw [List.getElem?_append_left hi] at hx;exact h i x hx
 ·rw [List.getElem?_append_right (by omega)] at hx
  have:=h2 _ x hx
  rwa [show p+l.length+(i - l.length)=p+i from by omega] at this
theorem wrapU_id {a:Int}(h:0<=a)(h2:a<18446744073709551616):wrapU a=a:=Int.emod_eq_of_lt h h2
theorem sgn_wrapU {a:Int}(h:inI64 a):sgn (wrapU a)=a:=by
 unfold inI64 at h;unfold sgn wrapU;split<;> omega
theorem sgn_small {a:Int}(h2:a<9223372036854775808):sgn a=a:=by unfold sgn;rw [if_pos h2]
theorem wrapU_add (a b:Int):wrapU (wrapU a+wrapU b)=wrapU (a+b):=by unfold wrapU;omega
theorem wrapU_sub (a b:Int):wrapU (wrapU a - wrapU b)=wrapU (a - b):=by unfold wrapU;omega
theorem wrapU_at {a k:Int}{t:Nat}(h:a+k=t)(hb:t<65536):wrapU (a+k)=t:=by rw [h];exact wrapU_id (by omega) (by omega)
section
variable {c:List CI} {M:Nat} {p:Nat} {r m:Nat->Int} {l:List CI} {Q:Nat->List Leak->Cfg->Prop}
theorem W.plain {i:Inst}{sp:Span}(h:At c p ((i,sp) :: l))(h1:1<=i.op)(h2:i.op<=14)(hw:inside i sp (r i.a.toNat) (r i.b.toNat))
  (k:At c (p+1) l->W c M ⟨p+1,upd r i.d.toNat (wvalue i (r i.a.toNat) (r i.b.toNat) (r i.c.toNat)),m⟩ (fun n l2 s2=>Q (n+1) (⟨1,p⟩ :: l2) s2)):W c M ⟨p,r,m⟩ Q:=
 W.step (Step.plain (s:=⟨p,r,m⟩) h.head h1 h2 hw) (k h.tail)
theorem W.const {d k:Int}{sp:Span}(h:At c p ((⟨1,d,0,0,0,k⟩,sp) :: l))(k0:0<=k)(k1:k<18446744073709551616)
  (K:At c (p+1) l->W c M ⟨p+1,upd r d.toNat k,m⟩ (fun n l2 s2=>Q (n+1) (⟨1,p⟩ :: l2) s2)):W c M ⟨p,r,m⟩ Q:=
 W.plain h (by simp) (by simp) (by simp [inside]) (fun h=>by simpa [wvalue,wrapU_id k0 k1] using K h)
theorem W.mov {d a:Int}{sp:Span}(h:At c p ((⟨2,d,a,0,0,0⟩,sp) :: l))
  (K:At c (p+1) l->W c M ⟨p+1,upd r d.toNat (r a.toNat),m⟩ (fun n l2 s2=>Q (n+1) (⟨1,p⟩ :: l2) s2)):W c M ⟨p,r,m⟩ Q:=
 W.plain h (by simp) (by simp) (by simp [inside]) (fun h=>by simpa [wvalue] using K h)
theorem W.addW {d a b low high:Int}{A B:Int}(h:At c p ((⟨3,d,a,b,0,0⟩,⟨low,high⟩) :: l))(ha:r a.toNat=wrapU A)(hb:r b.toNat=wrapU B)
  (iA:inI64 A) (iB:inI64 B) (iS:inI64 (A+B)) (h1:low<=A+B) (h2:A+B<=high)
  (K:At c (p+1) l->W c M ⟨p+1,upd r d.toNat (wrapU (A+B)),m⟩ (fun n l2 s2=>Q (n+1) (⟨1,p⟩ :: l2) s2)):W c M ⟨p,r,m⟩ Q:=
 W.plain h (by simp) (by simp) (by simp [inside,ha,hb,sgn_wrapU iA,sgn_wrapU iB];exact⟨iS,h1,h2⟩) (fun h=>by simpa [wvalue,ha,hb,wrapU_add] using K h)
theorem W.subW {d a b low high:Int}{A B:Int}(h:At c p ((⟨4,d,a,b,0,0⟩,⟨low,high⟩) :: l))(ha:r a.toNat=wrapU A)(hb:r b.toNat=wrapU B)
  (iA:inI64 A) (iB:inI64 B) (iS:inI64 (A - B)) (h1:low<=A - B) (h2:A - B<=high)
  (K:At c (p+1) l->W c M ⟨p+1,upd r d.toNat (wrapU (A - B)),m⟩ (fun n l2 s2=>Q (n+1) (⟨1,p⟩ :: l2) s2)):W c M ⟨p,r,m⟩ Q:=
 W.plain h (by simp) (by simp) (by simp [inside,ha,hb,sgn_wrapU iA,sgn_wrapU iB];exact⟨iS,h1,h2⟩) (fun h=>by simpa [wvalue,ha,hb,wrapU_sub] using K h)
theorem W.add {d a b low high:Int}(A B:Int)(h:At c p ((⟨3,d,a,b,0,0⟩,⟨low,high⟩) :: l))(ha:r a.toNat=A)(hb:r b.toNat=B)
  (a0:0<=A) (a1:A<4611686018427387904) (b0:0<=B) (b1:B<4611686018427387904) (h1:low<=A+B) (h2:A+B<=high)
  (K:At c (p+1) l->W c M ⟨p+1,upd r d.toNat (A+B),m⟩ (fun n l2 s2=>Q (n+1) (⟨1,p⟩ :: l2) s2)):W c M ⟨p,r,m⟩ Q:=
 W.addW (A:=A) (B:=B) h (by rw [ha,wrapU_id a0 (by omega)]) (by rw [hb,wrapU_id b0 (by omega)]) ⟨by omega,by omega⟩ ⟨by omega,by omega⟩ ⟨by omega,by omega⟩ h1 h2
  (fun h=>by rw [wrapU_id (by omega) (by omega)];exact K h)
theorem W.sub {d a b low high:Int}(A B:Int)(h:At c p ((⟨4,d,a,b,0,0⟩,⟨low,high⟩) :: l))(ha:r a.toNat=A)(hb:r b.toNat=B)
  (a0:0<=A) (a1:A<4611686018427387904) (b0:0<=B) (b1:B<4611686018427387904) (h1:low<=A - B) (h2:A - B<=high)
  (K:At c (p+1) l->W c M ⟨p+1,upd r d.toNat (wrapU (A - B)),m⟩ (fun n l2 s2=>Q (n+1) (⟨1,p⟩ :: l2) s2)):W c M ⟨p,r,m⟩ Q:=
 W.subW (A:=A) (B:=B) h (by rw [ha,wrapU_id a0 (by omega)]) (by rw [hb,wrapU_id b0 (by omega)]) ⟨by omega,by omega⟩ ⟨by omega,by omega⟩ ⟨by omega,by omega⟩ h1 h2 K
theorem W.mul {d a b low high:Int}(A B:Int)(h:At c p ((⟨5,d,a,b,0,0⟩,⟨low,high⟩) :: l))(ha:r a.toNat=A)(hb:r b.toNat=B)
  (a0:0<=A) (a1:A<4611686018427387904) (b0:0<=B) (b1:B<4611686018427387904) (h0:0<=A * B) (h1:low<=A * B) (h2:A * B<=high) (h3:high<4611686018427387904)
  (K:At c (p+1) l->W c M ⟨p+1,upd r d.toNat (A * B),m⟩ (fun n l2 s2=>Q (n+1) (⟨1,p⟩ :: l2) s2)):W c M ⟨p,r,m⟩ Q:=
 W.plain h (by simp) (by simp) (by simp only [inside,ha,hb,sgn_small (show A<9223372036854775808 by omega),sgn_small (show B<9223372036854775808 by omega)];simp;exact⟨⟨by omega,by omega⟩,h1,h2⟩)
  (fun h=>by simpa [wvalue,ha,hb,wrapU_id h0 (show A * B<18446744073709551616 by omega)] using K h)
theorem W.shl {d a k low high:Int}(A:Int)(h:At c p ((⟨10,d,a,0,0,k⟩,⟨low,high⟩) :: l))(ha:r a.toNat=A)
  (k0:0<=k) (k1:k<=63) (a1:A<4611686018427387904) (h0:0<=A * 2 ^ k.toNat) (h1:low<=A * 2 ^ k.toNat) (h2:A * 2 ^ k.toNat<=high) (h3:high<4611686018427387904)
  (K:At c (p+1) l->W c M ⟨p+1,upd r d.toNat (A * 2 ^ k.toNat),m⟩ (fun n l2 s2=>Q (n+1) (⟨1,p⟩ :: l2) s2)):W c M ⟨p,r,m⟩ Q:=
 W.plain h (by simp) (by simp) (by simp only [inside,ha,sgn_small (show A<9223372036854775808 by omega)];simp;exact⟨k0,k1,⟨by omega,by omega⟩,h1,h2⟩)
  (fun h=>by simpa [wvalue,ha,k0,k1,wrapU_id h0 (show A * 2 ^ k.toNat<18446744073709551616 by omega)] using K h)
theorem W.shr {d a k:Int}{sp:Span}(h:At c p ((⟨11,d,a,0,0,k⟩,sp) :: l))(k0:0<=k)(k1:k<=63)
  (K:At c (p+1) l->W c M ⟨p+1,upd r d.toNat (r a.toNat / 2 ^ k.toNat),m⟩ (fun n l2 s2=>Q (n+1) (⟨1,p⟩ :: l2) s2)):W c M ⟨p,r,m⟩ Q:=
 W.plain h (by simp) (by simp) (by simp [inside]) (fun h=>by simpa [wvalue,k0,k1] using K h)
theorem W.high {d a b:Int}{sp:Span}(h:At c p ((⟨6,d,a,b,0,0⟩,sp) :: l))
  (K:At c (p+1) l->W c M ⟨p+1,upd r d.toNat (r a.toNat * r b.toNat / 18446744073709551616),m⟩ (fun n l2 s2=>Q (n+1) (⟨1,p⟩ :: l2) s2)):W c M ⟨p,r,m⟩ Q:=
 W.plain h (by simp) (by simp) (by simp [inside]) (fun h=>by simpa [wvalue] using K h)
theorem W.and {d a b:Int}{sp:Span}(h:At c p ((⟨7,d,a,b,0,0⟩,sp) :: l))
  (K:At c (p+1) l->W c M ⟨p+1,upd r d.toNat (wand (r a.toNat) (r b.toNat)),m⟩ (fun n l2 s2=>Q (n+1) (⟨1,p⟩ :: l2) s2)):W c M ⟨p,r,m⟩ Q:=
 W.plain h (by simp) (by simp) (by simp [inside]) (fun h=>by simpa [wvalue] using K h)
theorem W.less {d a b:Int}{sp:Span}(h:At c p ((⟨13,d,a,b,0,0⟩,sp) :: l))
  (K:At c (p+1) l->W c M ⟨p+1,upd r d.toNat (if r a.toNat<r b.toNat then 1 else 0),m⟩ (fun n l2 s2=>Q (n+1) (⟨1,p⟩ :: l2) s2)):W c M ⟨p,r,m⟩ Q:=
 W.plain h (by simp) (by simp) (by simp [inside]) (fun h=>by simpa [wvalue] using K h)
theorem W.sel {d a b cc:Int}{sp:Span}(h:At c p ((⟨14,d,a,b,cc,0⟩,sp) :: l))
  (K:At c (p+1) l->W c M ⟨p+1,upd r d.toNat (if r a.toNat≠0 then r b.toNat else r cc.toNat),m⟩ (fun n l2 s2=>Q (n+1) (⟨1,p⟩ :: l2) s2)):W c M ⟨p,r,m⟩ Q:=
 W.plain h (by simp) (by simp) (by simp [inside]) (fun h=>by simpa [wvalue] using K h)
theorem W.ld {d a k:Int}{sp:Span}(at_:Nat)(h:At c p ((⟨15,d,a,0,0,k⟩,sp) :: l))(ha:r a.toNat+k=at_)(hM:at_<M)(hM2:M<=65536)
  (K:At c (p+1) l->W c M ⟨p+1,upd r d.toNat (m at_),m⟩ (fun n l2 s2=>Q (n+1) (⟨1,p⟩ :: ⟨3,at_⟩ :: l2) s2)):W c M ⟨p,r,m⟩ Q:=
 W.step (Step.ld (s:=⟨p,r,m⟩) h.head rfl (wrapU_at ha (by omega)) hM) (K h.tail)
theorem W.st {a b k:Int}{sp:Span}(at_:Nat)(h:At c p ((⟨16,0,a,b,0,k⟩,sp) :: l))(ha:r a.toNat+k=at_)(hM:at_<M)(hM2:M<=65536)
  (K:At c (p+1) l->W c M ⟨p+1,r,upd m at_ (r b.toNat)⟩ (fun n l2 s2=>Q (n+1) (⟨1,p⟩ :: ⟨3,at_⟩ :: l2) s2)):W c M ⟨p,r,m⟩ Q:=
 W.step (Step.st (s:=⟨p,r,m⟩) h.head rfl (wrapU_at ha (by omega)) hM) (K h.tail)
theorem W.br {k:Int}{sp:Span}(t:Nat)(h:At c p ((⟨17,0,0,0,0,k⟩,sp) :: l))(hk:k=t)
  (K:W c M ⟨t,r,m⟩ (fun n l2 s2=>Q (n+1) (⟨1,p⟩ :: l2) s2)):W c M ⟨p,r,m⟩ Q:=
 W.step (Step.br (s:=⟨p,r,m⟩) h.head rfl hk) K
theorem W.bz_go {a k:Int}{sp:Span}(t:Nat)(h:At c p ((⟨18,0,a,0,0,k⟩,sp) :: l))(ha:r a.toNat=0)(hk:k=t)
  (K:W c M ⟨t,r,m⟩ (fun n l2 s2=>Q (n+1) (⟨1,p⟩ :: ⟨2,1⟩ :: l2) s2)):W c M ⟨p,r,m⟩ Q:=
 W.step (Step.bgo (s:=⟨p,r,m⟩) h.head (.inl ⟨rfl,ha⟩) hk) K
theorem W.bz_no {a k:Int}{sp:Span}(h:At c p ((⟨18,0,a,0,0,k⟩,sp) :: l))(ha:r a.toNat≠0)
  (K:At c (p+1) l->W c M ⟨p+1,r,m⟩ (fun n l2 s2=>Q (n+1) (⟨1,p⟩ :: ⟨2,0⟩ :: l2) s2)):W c M ⟨p,r,m⟩ Q:=
 W.step (Step.bno (s:=⟨p,r,m⟩) h.head (.inl ⟨rfl,ha⟩)) (K h.tail)
theorem W.bnz_go {a k:Int}{sp:Span}(t:Nat)(h:At c p ((⟨19,0,a,0,0,k⟩,sp) :: l))(ha:r a.toNat≠0)(hk:k=t)
  (K:W c M ⟨t,r,m⟩ (fun n l2 s2=>Q (n+1) (⟨1,p⟩ :: ⟨2,1⟩ :: l2) s2)):W c M ⟨p,r,m⟩ Q:=
 W.step (Step.bgo (s:=⟨p,r,m⟩) h.head (.inr ⟨rfl,ha⟩) hk) K
theorem W.bnz_no {a k:Int}{sp:Span}(h:At c p ((⟨19,0,a,0,0,k⟩,sp) :: l))(ha:r a.toNat=0)
  (K:At c (p+1) l->W c M ⟨p+1,r,m⟩ (fun n l2 s2=>Q (n+1) (⟨1,p⟩ :: ⟨2,0⟩ :: l2) s2)):W c M ⟨p,r,m⟩ Q:=
 W.step (Step.bno (s:=⟨p,r,m⟩) h.head (.inr ⟨rfl,ha⟩)) (K h.tail)
end
def allSpan:Span:=⟨-9223372036854775808,9223372036854775807⟩
def ci (op d a b c k:Int):CI:=(⟨op,d,a,b,c,k⟩,allSpan)
def upC (n:Int)(x:Int):CI:=(⟨3,x,x,1,0,0⟩,⟨0,n⟩)
def downC (n:Int)(x:Int):CI:=(⟨4,x,x,1,0,0⟩,⟨-1,n⟩)
def eachC (n:Int)(p:Nat)(body:List CI):List CI:=ci 1 9 0 0 0 0 :: (body++[upC n 9,ci 13 16 9 10 0 0,ci 19 0 16 0 0 ((p+1:Nat):Int)])
theorem eachC_length (n:Int)(p:Nat)(body:List CI):(eachC n p body).length=body.length+4:=by simp [eachC]
def cutC (q:Int)(x:Int):List CI:=[ci 13 16 x 19 0 0,(⟨4,17,x,19,0,0⟩,⟨-q,q - 1⟩),ci 14 x 16 x 17 0]
def quotC (q most:Int)(x:Int):List CI:=[ci 6 17 x 20 0 0,(⟨5,18,17,19,0,0⟩,⟨0,most⟩),(⟨4,18,x,18,0,0⟩,⟨0,2 * q - 1⟩)]
def reduceC (q most:Int)(x:Int):List CI:=quotC q most x++(ci 2 x 18 0 0 0 :: cutC q x)
section
variable {c:List CI} {M:Nat} {p:Nat} {r m:Nat->Int} {l:List CI} {Q:Nat->List Leak->Cfg->Prop}
theorem emod_cut {v q:Int}(h0:0<=v)(h:v<2 * q):v % q=if v<q then v else v - q:=by
 split
 ·exact Int.emod_eq_of_lt h0 ‹_›
 ·rw [show v=(v - q)+q from by omega,Int.add_emod_right,Int.emod_eq_of_lt (by omega) (by omega)];omega
theorem W.cut {q x v:Int}(h:At c p (cutC q x++l))(hv:r x.toNat=v)(hq:r 19=q)(h0:0<=v)(h1:v<2 * q)(hq2:q<8388608)(hx:x.toNat≠16/\x.toNat≠17)
  (K:∀ y,At c (p+3) l->W c M ⟨p+3,upd (upd (upd r 16 (if v<q then 1 else 0)) 17 y) x.toNat (v % q),m⟩ (fun n l2 s2=>Q (n+3) (⟨1,p⟩ :: ⟨1,(p+1:Nat)⟩ :: ⟨1,(p+2:Nat)⟩ :: l2) s2)):W c M ⟨p,r,m⟩ Q:=by
 refine W.less h fun h1=>?_
 refine W.sub v q h1 (by show upd r 16 _ x.toNat=v;rw [upd_ne _ _ _ _ hx.1];exact hv) (by simp [upd,hq]) (by omega) (by omega) (by omega) (by omega) (by omega) (by omega) fun h2=>?_
 refine W.sel h2 fun h3=>?_
 have e:(if upd (upd r 16 (if v<q then 1 else 0)) 17 (wrapU (v - q)) 16≠0 then upd (upd r 16 (if v<q then 1 else 0)) 17 (wrapU (v - q)) x.toNat else upd (upd r 16 (if v<q then 1 else 0)) 17 (wrapU (v - q)) 17)=v % q:=by
  rw [emod_cut h0 ‹_›,upd_ne _ _ x.toNat _ hx.2,upd_ne _ _ x.toNat _ hx.1,upd_same,upd_ne _ _ 16 _ (by decide),upd_same,hv]
  by_cases hlt:v<q
  ·simp [hlt]
  ·simp [hlt];exact wrapU_id (by omega) (by omega)
 have:=K (wrapU (v - q)) h3
 simp only [hv,show (19:Int).toNat=19 from rfl,hq,show (16:Int).toNat=16 from rfl,show (17:Int).toNat=17 from rfl] at e ⊢
 rw [e]
 exact this
def qt (v q:Int):Int:=v * (18446744073709551615 / q) / 18446744073709551616
theorem qt_bound {v q:Int}(hq:0<q)(h0:0<=v)(h1:v<18446744073709551616):0<=v - qt v q * q/\v - qt v q * q<2 * q/\0<=qt v q:=by
 unfold qt
 generalize hM:(18446744073709551615:Int) / q=Mg
 have a1:Mg * q<=18446744073709551615:=by rw [<-hM];exact Int.ediv_mul_le _ (by omega)
 have a2:18446744073709551615<(Mg+1) * q:=by rw [<-hM];exact Int.lt_ediv_add_one_mul_self _ hq
 have hM0:0<=Mg:=by rw [<-hM];exact Int.ediv_nonneg (by omega) (by omega)
 generalize hH:v * Mg / 18446744073709551616=H
 have b1:H * 18446744073709551616<=v * Mg:=by rw [<-hH];exact Int.ediv_mul_le _ (by omega)
 have b2:v * Mg<(H+1) * 18446744073709551616:=by rw [<-hH];exact Int.lt_ediv_add_one_mul_self _ (by omega)
 have hH0:0<=H:=by rw [<-hH];exact Int.ediv_nonneg (Int.mul_nonneg h0 hM0) (by omega)
 have c1:H * q * 18446744073709551616<=v * 18446744073709551615:=by
  have e1:=Int.mul_le_mul_of_nonneg_right b1 (show 0<=q by omega)
  have e2:=Int.mul_le_mul_of_nonneg_left a1 h0
  rw [Int.mul_right_comm] at e1
  rw [Int.mul_assoc v Mg q] at e1
  omega
 have c2:v * 18446744073709551616 - v * q<(H * q+q) * 18446744073709551616:=by
  have e1:=Int.mul_lt_mul_of_pos_right b2 hq
  have e2:v * (18446744073709551616 - q)<=v * (Mg * q):=Int.mul_le_mul_of_nonneg_left (by rw [Int.add_mul] at a2;omega) h0
  rw [Int.mul_sub] at e2
  rw [Int.mul_assoc v Mg q] at e1
  rw [Int.mul_right_comm,Int.add_mul,Int.one_mul] at e1
  omega
 have c3:v * q<=18446744073709551616 * q:=Int.mul_le_mul_of_nonneg_right (by omega) (by omega)
 refine⟨?_,?_,hH0⟩<;> omega
theorem W.quot {q most x v:Int}(h:At c p (quotC q most x++l))(hv:r x.toNat=v)(hq:r 19=q)(hm:r 20=18446744073709551615 / q)(h0:0<=v)(h1:v<=most)(hq0:0<q)(hq2:q<8388608)(hmost:most<4611686018427387904)(hx:x.toNat≠17/\x.toNat≠18)
  (K:At c (p+3) l->W c M ⟨p+3,upd (upd r 17 (qt v q)) 18 (v - qt v q * q),m⟩ (fun n l2 s2=>Q (n+3) (⟨1,p⟩ :: ⟨1,(p+1:Nat)⟩ :: ⟨1,(p+2:Nat)⟩ :: l2) s2)):W c M ⟨p,r,m⟩ Q:=by
 obtain⟨b1,b2,b3⟩:=qt_bound hq0 h0 (by omega)
 have b5:0<=qt v q * q:=Int.mul_nonneg b3 (by omega)
 have b4:qt v q<=qt v q * q:=by have:=Int.mul_le_mul_of_nonneg_left (show 1<=q by omega) b3;omega
 refine W.high h fun h1=>?_
 have e1:r x.toNat * r (20:Int).toNat / 18446744073709551616=qt v q:=by rw [hv,show (20:Int).toNat=20 from rfl,hm];rfl
 rw [e1]
 refine W.mul (qt v q) q h1 (by simp [upd]) (by simp [upd,hq]) b3 (by omega) (by omega) (by omega) b5 (by omega) (by omega) (by omega) fun h2=>?_
 refine W.sub v (qt v q * q) h2 (by simp only [show (17:Int).toNat=17 from rfl,show (18:Int).toNat=18 from rfl];rw [upd_ne _ _ _ _ hx.2,upd_ne _ _ _ _ hx.1];exact hv) (by simp [upd]) h0 (by omega) b5 (by omega) b1 (by omega) fun h3=>?_
 rw [wrapU_id b1 (by omega)]
 have:=K h3
 simp only [show (17:Int).toNat=17 from rfl,show (18:Int).toNat=18 from rfl]
 have e2:upd (upd (upd r 17 (qt v q)) 18 (qt v q * q)) 18 (v - qt v q * q)=upd (upd r 17 (qt v q)) 18 (v - qt v q * q):=by funext j;simp only [upd];split<;> rfl
 rw [e2]
 exact this
theorem sub_qt_mod (v q:Int):(v - qt v q * q) % q=v % q:=by rw [Int.sub_mul_emod_self_right]
theorem W.reduce {q most x v:Int}(h:At c p (reduceC q most x++l))(hv:r x.toNat=v)(hq:r 19=q)(hm:r 20=18446744073709551615 / q)(h0:0<=v)(h1:v<=most)(hq0:0<q)(hq2:q<8388608)(hmost:most<4611686018427387904)(hx:x.toNat≠16/\x.toNat≠17/\x.toNat≠18/\x.toNat≠19)
  (K:∀ a b d,At c (p+7) l->W c M ⟨p+7,upd (upd (upd (upd r 18 a) 16 b) 17 d) x.toNat (v % q),m⟩ (fun n l2 s2=>Q (n+7) (⟨1,p⟩ :: ⟨1,(p+1:Nat)⟩ :: ⟨1,(p+2:Nat)⟩ :: ⟨1,(p+3:Nat)⟩ :: ⟨1,(p+4:Nat)⟩ :: ⟨1,(p+5:Nat)⟩ :: ⟨1,(p+6:Nat)⟩ :: l2) s2)):W c M ⟨p,r,m⟩ Q:=by
 obtain⟨b1,b2,b3⟩:=qt_bound hq0 h0 (show v<18446744073709551616 by omega)
 rw [reduceC,List.append_assoc] at h
 refine W.quot h hv hq hm h0 h1 hq0 hq2 hmost ⟨hx.2.1,hx.2.2.1⟩ fun h1=>?_
 refine W.mov (l:=cutC q x++l) h1 fun h2=>?_
 refine W.cut (v:=v - qt v q * q) h2 (by simp [upd]) ?_ b1 b2 hq2 ⟨hx.1,hx.2.1⟩ fun y h3=>?_
 ·have:=hx.2.2.2
  rw [upd_ne _ _ _ _ (by omega)];simp [upd,hq]
 have:=K (v - qt v q * q) (if v - qt v q * q<q then 1 else 0) y h3
 rw [sub_qt_mod]
 have e:upd (upd (upd (upd (upd (upd r 17 (qt v q)) 18 (v - qt v q * q)) x.toNat (upd (upd r 17 (qt v q)) 18 (v - qt v q * q) (18:Int).toNat)) 16 (if v - qt v q * q<q then 1 else 0)) 17 y) x.toNat (v % q)
   =upd (upd (upd (upd r 18 (v - qt v q * q)) 16 (if v - qt v q * q<q then 1 else 0)) 17 y) x.toNat (v % q):=by
  funext j;simp only [upd];repeat' split
  all_goals first|rfl|omega
 rw [e]
 exact this
end
structure Env where
 q:Nat
 n:Nat
 nv:Nat
 bits:Nat
def Env.place (E:Env)(v:Nat):Nat:=2+E.n * v
def Env.fin (E:Env):Nat:=2+E.n * E.nv
def Env.scratch (E:Env):Nat:=E.fin+4096
def Env.mem (E:Env):Nat:=E.scratch+E.n
structure Env.Ok (E:Env):Prop where
 q0:17<=E.q
 q1:E.q<8388608
 n0:4<=E.n
 n1:E.n<=256
 v1:E.nv<=12
 b1:E.bits<=24
 b2:(E.q:Int)<=2 ^ E.bits
theorem Env.Ok.mul {E:Env}(h:E.Ok):E.n * E.nv<=3072:=by
 have:=Nat.mul_le_mul h.n1 h.v1;omega
theorem Env.Ok.mem_le {E:Env}(h:E.Ok):E.mem<=65536:=by
 have:=h.mul;have:=h.n1;unfold Env.mem Env.scratch Env.fin;omega
theorem Env.place_lt {E:Env}{v k:Nat}(hv:v<E.nv)(hk:k<E.n):E.place v+k<E.fin:=by
 unfold Env.place Env.fin
 have:=Nat.mul_le_mul_left E.n (show v+1<=E.nv by omega)
 rw [Nat.mul_add] at this;omega
theorem Env.place_inj {E:Env}{v k v' k':Nat}(hk:k<E.n)(hk':k'<E.n)(h:E.place v+k=E.place v'+k'):v=v'/\k=k':=by
 unfold Env.place at h
 have h2:E.n * v+k=E.n * v'+k':=by omega
 have e1:(E.n * v+k) / E.n=v:=by rw [Nat.mul_add_div (by omega),Nat.div_eq_of_lt hk];rfl
 have e2:(E.n * v'+k') / E.n=v':=by rw [Nat.mul_add_div (by omega),Nat.div_eq_of_lt hk'];rfl
 have:v=v':=by rw [<-e1,<-e2,h2]
 subst this
 exact⟨rfl,by omega⟩
abbrev Vs:=Nat->Nat->Int
def setV (V:Vs)(d:Nat)(f:Nat->Int):Vs:=fun v j=>if v=d then f j else V v j
structure MemOk (E:Env)(tp:List Int)(V:Vs)(used:Nat)(m:Nat->Int):Prop where
 t1:tp.length<=4096
 t2:∀ x∈tp,0<=x/\x<4294967296
 m0:m 0=tp.length
 m1:m 1=used
 mv:∀ v k,v<E.nv->k<E.n->m (E.place v+k)=V v k
 mt:∀ j,j<tp.length->m (E.fin+j)=tp.getD j 0
 vr:∀ v k,v<E.nv->k<E.n->0<=V v k/\V v k<E.q
structure RegOk (E:Env)(r0 r:Nat->Int):Prop where
 z:r 0=0
 o:r 1=1
 n:r 10=E.n
 q:r 19=E.q
 m:r 20=18446744073709551615 / (E.q:Int)
 cs:∀ j,2<=j->j<9->r j=r0 j
theorem RegOk.upd {E:Env}{r0 r:Nat->Int}(h:RegOk E r0 r)(j:Nat)(v:Int)(hj:9<=j/\j≠10/\j≠19/\j≠20):RegOk E r0 (upd r j v):=by
 obtain⟨a,b,c,d,e,f⟩:=h
 refine⟨?_,?_,?_,?_,?_,fun i h2 h9=>?_⟩
 all_goals rw [upd_ne _ _ _ _ (by omega)]
 ·exact a
 ·exact b
 ·exact c
 ·exact d
 ·exact e
 ·exact f i h2 h9
def ldC (E:Env)(x:Int)(v:Nat):CI:=ci 15 x 9 0 0 (E.place v:Nat)
def stC (E:Env)(x:Int)(v:Nat):CI:=ci 16 0 9 x 0 (E.place v:Nat)
def sqr (q:Nat):Int:=((q:Int) - 1) * ((q:Int) - 1)
def addB (E:Env)(d a b:Nat):List CI:=ldC E 12 a :: ldC E 13 b :: (⟨3,15,12,13,0,0⟩,⟨0,2 * (E.q:Int) - 2⟩) :: (cutC E.q 15++[stC E 15 d])
def subB (E:Env)(d a b:Nat):List CI:=ldC E 12 a :: ldC E 13 b :: (⟨3,15,12,19,0,0⟩,⟨E.q,2 * (E.q:Int) - 1⟩) :: (⟨4,15,15,13,0,0⟩,⟨1,2 * (E.q:Int) - 1⟩) :: (cutC E.q 15++[stC E 15 d])
def mulB (E:Env)(d a b:Nat):List CI:=ldC E 12 a :: ldC E 13 b :: (⟨5,15,12,13,0,0⟩,⟨0,sqr E.q⟩) :: (reduceC E.q (sqr E.q) 15++[stC E 15 d])
def scaleB (E:Env)(d a:Nat):List CI:=ldC E 12 a :: (⟨5,15,12,21,0,0⟩,⟨0,sqr E.q⟩) :: (reduceC E.q (sqr E.q) 15++[stC E 15 d])
def zeroB (E:Env)(d:Nat):List CI:=[stC E 0 d]
def copyB (E:Env)(d a:Nat):List CI:=[ldC E 15 a,stC E 15 d]
def pickB (E:Env)(d a b c:Nat):List CI:=[ldC E 12 a,ldC E 13 b,ldC E 14 c,ci 7 12 12 1 0 0,ci 14 15 12 13 14 0,stC E 15 d]
def roundMost (E:Env)(K:Nat):Int:=((E.q:Int) - 1) * 2 ^ K+((E.q:Int) - 1) / 2
def roundB (E:Env)(d a K:Nat):List CI:=
 ldC E 15 a :: (⟨10,15,15,0,0,K⟩,⟨0,roundMost E K⟩) :: (⟨3,15,15,21,0,0⟩,⟨0,roundMost E K⟩) :: (quotC E.q (roundMost E K) 15++
  [ci 13 16 18 19 0 0,(⟨3,18,17,1,0,0⟩,⟨0,roundMost E K⟩),ci 14 15 16 17 18 0,ci 7 15 15 23 0 0,stC E 15 d])
def expandMost (E:Env)(K:Nat):Int:=(E.q:Int) * 2 ^ K+2 ^ K
def expandB (E:Env)(d a K:Nat):List CI:=
 [ldC E 15 a,ci 7 15 15 23 0 0,(⟨5,15,15,19,0,0⟩,⟨0,expandMost E K⟩),(⟨3,15,15,21,0,0⟩,⟨0,expandMost E K⟩),ci 11 15 15 0 0 K,stC E 15 d]
section
variable {c:List CI} {E:Env} {p:Nat} {r0 r m:Nat->Int} {tp:List Int} {V:Vs} {used:Nat} {l:List CI} {Q:Nat->List Leak->Cfg->Prop}
theorem W.ldv (hE:E.Ok){x:Int}{v k:Nat}(h:At c p (ldC E x v :: l))(hm:MemOk E tp V used m)(h9:r 9=k)(hv:v<E.nv)(hk:k<E.n)
  (K:At c (p+1) l->W c E.mem ⟨p+1,upd r x.toNat (V v k),m⟩ (fun n l2 s2=>Q (n+1) (⟨1,p⟩ :: ⟨3,(E.place v+k:Nat)⟩ :: l2) s2)):W c E.mem ⟨p,r,m⟩ Q:=by
 have hp:=Env.place_lt hv hk
 have hM:=hE.mem_le
 refine W.ld (E.place v+k) h ?_ ?_ hM fun h=>?_
 ·show r 9+((E.place v:Nat):Int)=_;rw [h9];omega
 ·unfold Env.mem Env.scratch;omega
 ·rw [hm.mv v k hv hk];exact K h
theorem W.stv (hE:E.Ok){x:Int}{v k:Nat}(h:At c p (stC E x v :: l))(h9:r 9=k)(hv:v<E.nv)(hk:k<E.n)
  (K:At c (p+1) l->W c E.mem ⟨p+1,r,upd m (E.place v+k) (r x.toNat)⟩ (fun n l2 s2=>Q (n+1) (⟨1,p⟩ :: ⟨3,(E.place v+k:Nat)⟩ :: l2) s2)):W c E.mem ⟨p,r,m⟩ Q:=by
 have hp:=Env.place_lt hv hk
 have hM:=hE.mem_le
 refine W.st (E.place v+k) h ?_ ?_ hM fun h=>K h
 ·show r 9+((E.place v:Nat):Int)=_;rw [h9];omega
 ·unfold Env.mem Env.scratch;omega
end
def Body (c:List CI)(E:Env)(p:Nat)(body:List CI)(d:Nat)(B:Nat)(X:(Nat->Int)->Prop)(f:Vs->Nat->Int):Prop:=
 ∀ k,k<E.n->∃ N L,N<=B/\∀ r0 r m tp V used,RegOk E r0 r->X r->MemOk E tp V used m->r 9=k->
  W c E.mem ⟨p,r,m⟩ (fun n' l s=>n'=N/\l=L/\s.pc=p+body.length/\RegOk E r0 s.r/\X s.r/\s.r 9=k/\s.m=upd m (E.place d+k) (f V k)/\0<=f V k/\f V k<E.q)
theorem Body.of {c:List CI}{E:Env}{p:Nat}{body:List CI}{d:Nat}{B:Nat}{X:(Nat->Int)->Prop}{f:Vs->Nat->Int}{N:Nat}{L:Nat->List Leak}
 (h:∀ k,k<E.n->∀ r0 r m tp V used,RegOk E r0 r->X r->MemOk E tp V used m->r 9=k->
  W c E.mem ⟨p,r,m⟩ (fun n' l s=>n'=N/\l=L k/\s.pc=p+body.length/\RegOk E r0 s.r/\X s.r/\s.r 9=k/\s.m=upd m (E.place d+k) (f V k)/\0<=f V k/\f V k<E.q))
 (hN:N<=B):Body c E p body d B X f:=fun k hk=>⟨N,L k,hN,h k hk⟩
def X2 (a b:Int)(r:Nat->Int):Prop:=r 21=a/\r 23=b
def X0 (_r:Nat->Int):Prop:=True
theorem wand_mask (x:Int)(k:Nat)(h:0<=x):wand x (2 ^ k - 1)=x % 2 ^ k:=by
 obtain⟨n,rfl⟩:=Int.eq_ofNat_of_zero_le h
 unfold wand
 have h1:(1:Nat)<=2 ^ k:=Nat.one_le_two_pow
 have e:((2:Int) ^ k - 1).toNat=2 ^ k - 1:=by
  have:((2:Int) ^ k - 1)=((2 ^ k - 1:Nat):Int):=by rw [Int.natCast_sub h1];simp
  rw [this];rfl
 rw [e,Int.toNat_natCast,Nat.and_two_pow_sub_one_eq_mod]
 simp
theorem wand_one (x:Int)(h:0<=x):wand x 1=x % 2:=wand_mask x 1 h
section
variable {c:List CI} {E:Env} {p:Nat}
theorem mod_range {q:Nat}(x:Int)(h:17<=q):0<=x % (q:Int)/\x % (q:Int)<q:=⟨Int.emod_nonneg _ (by omega),Int.emod_lt_of_pos _ (by omega)⟩
theorem mul_range {q:Nat}{a b:Int}(hq:17<=q)(ha:0<=a/\a<q)(hb:0<=b/\b<q):0<=a * b/\a * b<=sqr q:=by
 refine⟨Int.mul_nonneg ha.1 hb.1,?_⟩
 unfold sqr
 exact Int.mul_le_mul (by omega) (by omega) hb.1 (by omega)
theorem sqr_lt {q:Nat}(h:q<8388608)(h0:17<=q):sqr q<=70368744177664/\0<=sqr q:=by
 unfold sqr
 have:=Int.mul_le_mul (show (q:Int) - 1<=8388608 by omega) (show (q:Int) - 1<=8388608 by omega) (by omega) (by omega)
 exact⟨by omega,Int.mul_nonneg (by omega) (by omega)⟩
theorem zero_body (hE:E.Ok){d:Nat}(hd:d<E.nv)(hc:At c p (zeroB E d)):Body c E p (zeroB E d) d 1 X0 (fun _ _=>0):=by
 have:=hE.q0
 apply Body.of
 ·intro k hk r0 r m tp V used hr _ hm h9
  refine W.stv hE hc h9 hd hk fun h=>W.done ?_
  refine⟨rfl,rfl,rfl,hr,trivial,h9,?_,by omega,by omega⟩
  show upd m _ (r 0)=_;rw [hr.z]
 ·exact Nat.le_refl _
theorem add_body (hE:E.Ok){d a b:Nat}(hd:d<E.nv)(ha:a<E.nv)(hb:b<E.nv)(hc:At c p (addB E d a b)):Body c E p (addB E d a b) d 7 X0 (fun V k=>(V a k+V b k) % E.q):=by
 have:=hE.q0;have:=hE.q1
 apply Body.of
 ·intro k hk r0 r m tp V used hr _ hm h9
  have ra:=hm.vr a k ha hk;have rb:=hm.vr b k hb hk
  refine W.ldv hE hc hm h9 ha hk fun h=>?_
  refine W.ldv hE h hm (by simpa [upd] using h9) hb hk fun h=>?_
  refine W.add (V a k) (V b k) h (by simp [upd]) (by simp [upd]) ra.1 (by omega) rb.1 (by omega) (by omega) (by omega) fun h=>?_
  refine W.cut (v:=V a k+V b k) h (by simp [upd]) (by simp [upd,hr.q]) (by omega) (by omega) (by omega) (by decide) fun y h=>?_
  refine W.stv hE h (by simpa [upd] using h9) hd hk fun h=>W.done ?_
  have e:=mod_range (V a k+V b k) hE.q0
  refine⟨rfl,rfl,rfl,?_,trivial,by simpa [upd] using h9,by simp [upd],e.1,e.2⟩
  exact ((((((hr.upd _ _ (by decide)).upd _ _ (by decide)).upd _ _ (by decide)).upd _ _ (by decide)).upd _ _ (by decide)).upd _ _ (by decide))
 ·exact Nat.le_refl _
theorem sub_body (hE:E.Ok){d a b:Nat}(hd:d<E.nv)(ha:a<E.nv)(hb:b<E.nv)(hc:At c p (subB E d a b)):Body c E p (subB E d a b) d 8 X0 (fun V k=>(V a k+E.q - V b k) % E.q):=by
 have:=hE.q0;have:=hE.q1
 apply Body.of
 ·intro k hk r0 r m tp V used hr _ hm h9
  have ra:=hm.vr a k ha hk;have rb:=hm.vr b k hb hk
  refine W.ldv hE hc hm h9 ha hk fun h=>?_
  refine W.ldv hE h hm (by simpa [upd] using h9) hb hk fun h=>?_
  refine W.add (V a k) E.q h (by simp [upd]) (by simp [upd,hr.q]) ra.1 (by omega) (by omega) (by omega) (by omega) (by omega) fun h=>?_
  refine W.sub (V a k+E.q) (V b k) h (by simp [upd]) (by simp [upd]) (by omega) (by omega) (by omega) (by omega) (by omega) (by omega) fun h=>?_
  rw [wrapU_id (by omega) (by omega)]
  refine W.cut (v:=V a k+E.q - V b k) h (by simp [upd]) (by simp [upd,hr.q]) (by omega) (by omega) (by omega) (by decide) fun y h=>?_
  refine W.stv hE h (by simpa [upd] using h9) hd hk fun h=>W.done ?_
  have e:=mod_range (V a k+E.q - V b k) hE.q0
  refine⟨rfl,rfl,rfl,?_,trivial,by simpa [upd] using h9,by simp [upd],e.1,e.2⟩
  exact (((((((hr.upd _ _ (by decide)).upd _ _ (by decide)).upd _ _ (by decide)).upd _ _ (by decide)).upd _ _ (by decide)).upd _ _ (by decide)).upd _ _ (by decide))
 ·exact Nat.le_refl _
theorem mul_body (hE:E.Ok){d a b:Nat}(hd:d<E.nv)(ha:a<E.nv)(hb:b<E.nv)(hc:At c p (mulB E d a b)):Body c E p (mulB E d a b) d 11 X0 (fun V k=>V a k * V b k % E.q):=by
 have:=hE.q0;have:=hE.q1;have hs:=sqr_lt hE.q1 hE.q0
 apply Body.of
 ·intro k hk r0 r m tp V used hr _ hm h9
  have ra:=hm.vr a k ha hk;have rb:=hm.vr b k hb hk;have rab:=mul_range hE.q0 ra rb
  refine W.ldv hE hc hm h9 ha hk fun h=>?_
  refine W.ldv hE h hm (by simpa [upd] using h9) hb hk fun h=>?_
  refine W.mul (V a k) (V b k) h (by simp [upd]) (by simp [upd]) ra.1 (by omega) rb.1 (by omega) rab.1 rab.1 rab.2 (by omega) fun h=>?_
  refine W.reduce (v:=V a k * V b k) h (by simp [upd]) (by simp [upd,hr.q]) (by simp [upd,hr.m]) rab.1 rab.2 (by omega) (by omega) (by omega) (by decide) fun x y z h=>?_
  refine W.stv hE h (by simpa [upd] using h9) hd hk fun h=>W.done ?_
  have e:=mod_range (V a k * V b k) hE.q0
  refine⟨rfl,rfl,rfl,?_,trivial,by simpa [upd] using h9,by simp [upd],e.1,e.2⟩
  exact (((((((hr.upd _ _ (by decide)).upd _ _ (by decide)).upd _ _ (by decide)).upd _ _ (by decide)).upd _ _ (by decide)).upd _ _ (by decide)).upd _ _ (by decide))
 ·exact Nat.le_refl _
theorem scale_body (hE:E.Ok){d a:Nat}(hd:d<E.nv)(ha:a<E.nv)(K:Int)(hK:0<=K/\K<E.q)(hc:At c p (scaleB E d a)):Body c E p (scaleB E d a) d 10 (fun r=>r 21=K) (fun V k=>V a k * K % E.q):=by
 have:=hE.q0;have:=hE.q1;have hs:=sqr_lt hE.q1 hE.q0
 apply Body.of
 ·intro k hk r0 r m tp V used hr hX hm h9
  have ra:=hm.vr a k ha hk;have rab:=mul_range hE.q0 ra hK
  refine W.ldv hE hc hm h9 ha hk fun h=>?_
  refine W.mul (V a k) K h (by simp [upd]) (by simp [upd,hX]) ra.1 (by omega) hK.1 (by omega) rab.1 rab.1 rab.2 (by omega) fun h=>?_
  refine W.reduce (v:=V a k * K) h (by simp [upd]) (by simp [upd,hr.q]) (by simp [upd,hr.m]) rab.1 rab.2 (by omega) (by omega) (by omega) (by decide) fun x y z h=>?_
  refine W.stv hE h (by simpa [upd] using h9) hd hk fun h=>W.done ?_
  have e:=mod_range (V a k * K) hE.q0
  refine⟨rfl,rfl,rfl,?_,by simpa [upd] using hX,by simpa [upd] using h9,by simp [upd],e.1,e.2⟩
  exact ((((((hr.upd _ _ (by decide)).upd _ _ (by decide)).upd _ _ (by decide)).upd _ _ (by decide)).upd _ _ (by decide)).upd _ _ (by decide))
 ·exact Nat.le_refl _
theorem pick_body (hE:E.Ok){d a b e:Nat}(hd:d<E.nv)(ha:a<E.nv)(hb:b<E.nv)(he:e<E.nv)(hc:At c p (pickB E d a b e)):Body c E p (pickB E d a b e) d 6 X0 (fun V k=>if V a k % 2=1 then V b k else V e k):=by
 apply Body.of
 ·intro k hk r0 r m tp V used hr _ hm h9
  have ra:=hm.vr a k ha hk;have rb:=hm.vr b k hb hk;have re:=hm.vr e k he hk
  refine W.ldv hE hc hm h9 ha hk fun h=>?_
  refine W.ldv hE h hm (by simpa [upd] using h9) hb hk fun h=>?_
  refine W.ldv hE h hm (by simpa [upd] using h9) he hk fun h=>?_
  refine W.and h fun h=>?_
  refine W.sel h fun h=>?_
  refine W.stv hE h (by simpa [upd] using h9) hd hk fun h=>W.done ?_
  refine⟨rfl,rfl,rfl,?_,trivial,by simpa [upd] using h9,?_,?_,?_⟩
  ·exact (((((hr.upd _ _ (by decide)).upd _ _ (by decide)).upd _ _ (by decide)).upd _ _ (by decide)).upd _ _ (by decide))
  ·simp [upd,hr.o,wand_one _ ra.1]
   congr 1
   by_cases h:V a k % 2=1
   ·simp [h]
   ·rw [if_neg h,if_pos (by omega)]
  ·split
   ·exact rb.1
   ·exact re.1
  ·split
   ·exact rb.2
   ·exact re.2
 ·exact Nat.le_refl _
end
section
variable {c:List CI} {E:Env} {p:Nat}
theorem pow_facts {K:Nat}(hK:1<=K/\K<=30):(2:Int) ^ K<=1073741824/\(2:Int)<=2 ^ K/\(2:Int) ^ K=2 * 2 ^ (K - 1)/\(1:Int)<=2 ^ (K - 1):=by
 obtain⟨j,rfl⟩:∃ j,K=j+1:=⟨K - 1,by omega⟩
 have h1:(2:Nat) ^ (j+1)<=2 ^ 30:=Nat.pow_le_pow_right (by decide) hK.2
 have h2:(1:Nat)<=2 ^ j:=Nat.one_le_two_pow
 have e:(2:Nat) ^ (j+1)=2 * 2 ^ j:=by rw [Nat.pow_succ,Nat.mul_comm]
 have c1:((2:Int) ^ (j+1))=((2 ^ (j+1):Nat):Int):=by simp
 have c2:((2:Int) ^ j)=((2 ^ j:Nat):Int):=by simp
 simp only [Nat.add_sub_cancel]
 rw [c1,c2]
 have h3:(2:Nat) ^ 30=1073741824:=by decide
 omega
theorem div_of_qt {v q:Int}(hq:0<q)(h0:0<=v)(h1:v<18446744073709551616):v / q=if v - qt v q * q<q then qt v q else qt v q+1:=by
 obtain⟨b1,b2,b3⟩:=qt_bound hq h0 h1
 split
 ·rw [show v=(v - qt v q * q)+qt v q * q from by omega,Int.add_mul_ediv_right _ _ (by omega),Int.ediv_eq_zero_of_lt b1 (by omega)]
  rw [show (v - qt v q * q)+qt v q * q=v from by omega];omega
 ·rw [show v=(v - qt v q * q - q)+(qt v q+1) * q from by rw [Int.add_mul];omega,Int.add_mul_ediv_right _ _ (by omega),Int.ediv_eq_zero_of_lt (by omega) (by omega)]
  rw [show (v - qt v q * q - q)+(qt v q+1) * q=v from by rw [Int.add_mul];omega];omega
theorem round_body (hE:E.Ok){d a K:Nat}(hd:d<E.nv)(ha:a<E.nv)(hK:1<=K/\K<=30)(hKq:(2:Int) ^ K<E.q)(hc:At c p (roundB E d a K)):
  Body c E p (roundB E d a K) d 11 (X2 (((E.q:Int) - 1) / 2) (2 ^ K - 1)) (fun V k=>(V a k * 2 ^ K+((E.q:Int) - 1) / 2) / E.q % 2 ^ K):=by
 have q0:=hE.q0;have q1:=hE.q1
 obtain⟨p1,p2,p3,p4⟩:=pow_facts hK
 apply Body.of
 ·intro k hk r0 r m tp V used hr hX hm h9
  have ra:=hm.vr a k ha hk
  obtain⟨x1,x2⟩:=hX
  have m0:0<=V a k * 2 ^ K:=Int.mul_nonneg ra.1 (by omega)
  have m1:V a k * 2 ^ K<=((E.q:Int) - 1) * 2 ^ K:=Int.mul_le_mul_of_nonneg_right (by omega) (by omega)
  have m2:((E.q:Int) - 1) * 2 ^ K<=8388608 * 1073741824:=Int.mul_le_mul (by omega) (by omega) (by omega) (by omega)
  have m3:32<=((E.q:Int) - 1) * 2 ^ K:=by have:=Int.mul_le_mul (show (16:Int)<=(E.q:Int) - 1 by omega) p2 (by omega) (by omega);omega
  have hmost:roundMost E K=((E.q:Int) - 1) * 2 ^ K+((E.q:Int) - 1) / 2:=rfl
  have hh:0<=((E.q:Int) - 1) / 2/\((E.q:Int) - 1) / 2<=8388608:=by omega
  refine W.ldv hE hc hm h9 ha hk fun h=>?_
  refine W.shl (V a k) h (by simp [upd]) (by omega) (by omega) (by omega) (by simpa using m0) (by simpa using m0) (by simp;omega) (by omega) fun h=>?_
  simp only [Int.toNat_natCast]
  refine W.add (V a k * 2 ^ K) (((E.q:Int) - 1) / 2) h (by simp [upd]) (by simp [upd,x1]) m0 (by omega) hh.1 (by omega) (by omega) (by omega) fun h=>?_
  generalize hv:V a k * 2 ^ K+((E.q:Int) - 1) / 2=v at h ⊢
  have v0:0<=v:=by omega
  have v1:v<=roundMost E K:=by omega
  obtain⟨b1,b2,b3⟩:=qt_bound (q:=E.q) (by omega) v0 (by omega)
  have b4:qt v E.q * 17<=qt v E.q * E.q:=Int.mul_le_mul_of_nonneg_left (by omega) b3
  refine W.quot (v:=v) h (by simp [upd]) (by simp [upd,hr.q]) (by simp [upd,hr.m]) v0 v1 (by omega) (by omega) (by omega) (by decide) fun h=>?_
  refine W.less h fun h=>?_
  refine W.add (qt v E.q) 1 h (by simp [upd]) (by simp [upd,hr.o]) b3 (by omega) (by omega) (by omega) (by omega) (by omega) fun h=>?_
  refine W.sel h fun h=>?_
  refine W.and h fun h=>?_
  refine W.stv hE h (by simpa [upd] using h9) hd hk fun h=>W.done ?_
  have e1:=div_of_qt (q:=E.q) (by omega) v0 (show v<18446744073709551616 by omega)
  have d0:0<=v / (E.q:Int):=Int.ediv_nonneg v0 (by omega)
  refine⟨rfl,rfl,rfl,?_,⟨by simpa [upd] using x1,by simpa [upd] using x2⟩,by simpa [upd] using h9,?_,Int.emod_nonneg _ (by omega),Int.lt_trans (Int.emod_lt_of_pos _ (by omega)) hKq⟩
  ·exact (((((((((hr.upd _ _ (by decide)).upd _ _ (by decide)).upd _ _ (by decide)).upd _ _ (by decide)).upd _ _ (by decide)).upd _ _ (by decide)).upd _ _ (by decide)).upd _ _ (by decide)).upd _ _ (by decide))
  ·have e2:wand (v / E.q) (2 ^ K - 1)=v / E.q % 2 ^ K:=wand_mask _ _ d0
   rw [<-e2,e1]
   simp [upd,x2,hr.q]
 ·exact Nat.le_refl _
theorem expand_body (hE:E.Ok){d a K:Nat}(hd:d<E.nv)(ha:a<E.nv)(hK:1<=K/\K<=30)(hKq:(2:Int) ^ K<E.q)(hc:At c p (expandB E d a K)):
  Body c E p (expandB E d a K) d 6 (X2 (2 ^ (K - 1)) (2 ^ K - 1)) (fun V k=>((E.q:Int) * (V a k % 2 ^ K)+2 ^ (K - 1)) / 2 ^ K):=by
 have q0:=hE.q0;have q1:=hE.q1
 obtain⟨p1,p2,p3,p4⟩:=pow_facts hK
 apply Body.of
 ·intro k hk r0 r m tp V used hr hX hm h9
  have ra:=hm.vr a k ha hk
  obtain⟨x1,x2⟩:=hX
  have x0:0<=V a k % 2 ^ K:=Int.emod_nonneg _ (by omega)
  have xl:V a k % 2 ^ K<2 ^ K:=Int.emod_lt_of_pos _ (by omega)
  have em:(E.q:Int) * (2 ^ K:Int)<=8388608 * 1073741824:=Int.mul_le_mul (by omega) (by omega) (by omega) (by omega)
  have hmost:expandMost E K=(E.q:Int) * 2 ^ K+2 ^ K:=rfl
  refine W.ldv hE hc hm h9 ha hk fun h=>?_
  refine W.and h fun h=>?_
  have e1:wand (upd r (15:Int).toNat (V a k) (15:Int).toNat) (upd r (15:Int).toNat (V a k) (23:Int).toNat)=V a k % 2 ^ K:=by
   simp [upd,x2,wand_mask _ _ ra.1]
  rw [e1]
  generalize V a k % 2 ^ K=x at *
  have m0:0<=x * (E.q:Int):=Int.mul_nonneg x0 (by omega)
  have m1:x * (E.q:Int)<=(2 ^ K - 1) * (E.q:Int):=Int.mul_le_mul_of_nonneg_right (by omega) (by omega)
  have m2:(2 ^ K - 1) * (E.q:Int)=(E.q:Int) * 2 ^ K - E.q:=by rw [Int.sub_mul,Int.mul_comm];omega
  refine W.mul x E.q h (by simp [upd]) (by simp [upd,hr.q]) x0 (by omega) (by omega) (by omega) m0 m0 (by omega) (by omega) fun h=>?_
  refine W.add (x * E.q) (2 ^ (K - 1)) h (by simp [upd]) (by simp [upd,x1]) m0 (by omega) (by omega) (by omega) (by omega) (by omega) fun h=>?_
  refine W.shr h (by omega) (by omega) fun h=>?_
  refine W.stv hE h (by simpa [upd] using h9) hd hk fun h=>W.done ?_
  refine⟨rfl,rfl,rfl,?_,⟨by simpa [upd] using x1,by simpa [upd] using x2⟩,by simpa [upd] using h9,?_,Int.ediv_nonneg (by rw [Int.mul_comm];omega) (by omega),Int.ediv_lt_of_lt_mul (by omega) (by rw [Int.mul_comm (E.q:Int) x];omega)⟩
  ·exact (((((hr.upd _ _ (by decide)).upd _ _ (by decide)).upd _ _ (by decide)).upd _ _ (by decide)).upd _ _ (by decide))
  ·simp [upd,Int.mul_comm x]
 ·exact Nat.le_refl _
end
def mn (q x:Int):Int:=if x<q - x then x else q - x
def nacc (g:Nat->Bool):Nat->Int
 |0=>1
 |k+1=>if g k then nacc g k else 0
def normB (E:Env)(a:Nat):List CI:=[ldC E 12 a,(⟨4,13,19,12,0,0⟩,⟨1,E.q⟩),ci 13 16 12 13 0 0,ci 14 12 16 12 13 0,ci 13 16 12 21 0 0,ci 7 22 22 16 0 0]
section
variable {c:List CI} {E:Env} {p:Nat}
def near (E:Env)(K:Int)(V:Vs)(a:Nat)(k:Nat):Bool:=decide (mn E.q (V a k)<K)
end
end Go.Proofs.YtkplfaionpplaaaGreatDoor.Al
