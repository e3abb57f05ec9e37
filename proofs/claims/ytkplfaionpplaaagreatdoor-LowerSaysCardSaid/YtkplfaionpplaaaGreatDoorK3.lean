/- Part 3: P21, P22, P23, P24, P25. -/
import Derived.Test.YtkplfaionpplaaaGreatDoorK2
set_option linter.unusedVariables false
set_option linter.unusedSimpArgs false
namespace Go.Proofs.YtkplfaionpplaaaGreatDoor.Al
mutual
def posTS (E:Env):Nat->Nat->Stmt->List Nat
 |deep,p,⟨op,_,_,_,_,_,body,els⟩=>
  if op=14 then posTL E (deep+1) (p+2) body++posTL E (deep+1) (p+2+(genL E 0 0 (deep+1) (p+2) body).length+1) els
  else if op=15 then posTL E (deep+1) (p+1) body
  else if op=16 then posTL E (deep+1) (p+1) body
  else if op=13 then [p+5] else []
def posTL (E:Env):Nat->Nat->List Stmt->List Nat
 |_,_,[]=>[]
 |deep,p,s :: l=>posTS E deep p s++posTL E deep (p+(genS E 0 0 deep p s).length) l
end
mutual
def posGS (E:Env):Nat->Nat->Stmt->List Nat
 |deep,p,⟨op,_,_,_,_,_,body,els⟩=>
  if op=14 then posGL E (deep+1) (p+2) body++posGL E (deep+1) (p+2+(genL E 0 0 (deep+1) (p+2) body).length+1) els
  else if op=15 then posGL E (deep+1) (p+1) body
  else if op=16 then posGL E (deep+1) (p+1) body++[p+1+(genL E 0 0 (deep+1) (p+1) body).length+4]
  else []
def posGL (E:Env):Nat->Nat->List Stmt->List Nat
 |_,_,[]=>[]
 |deep,p,s :: l=>posGS E deep p s++posGL E deep (p+(genS E 0 0 deep p s).length) l
end
theorem vecC_len (E:Env)(p T T':Nat)(s:Stmt):(vecC E p T s).length=(vecC E p T' s).length:=by
 by_cases h:s.op=13
 ·simp only [vecC,h];rfl
 ·have e:vecC E p T s=vecC E p T' s:=by unfold vecC;simp only [h,if_false]
  rw [e]
mutual
theorem len_stmt (E:Env)(T G T' G':Nat):∀ (s:Stmt) (deep p:Nat),(genS E T G deep p s).length=(genS E T' G' deep p s).length
 |⟨op,d,a,b,e,k,body,els⟩,deep,p=>by
  unfold genS
  have h1:=len_list E T G T' G' body (deep+1) (p+2)
  have h3:=len_list E T G T' G' body (deep+1) (p+1)
  split
  ·simp only [h1]
   have h2:=len_list E T G T' G' els (deep+1) (p+2+(genL E T' G' (deep+1) (p+2) body).length+1)
   simp [h1,h2]
  ·split
   ·simp [h3]
   ·split
    ·simp [h3]
    ·exact vecC_len _ _ _ _ _
theorem len_list (E:Env)(T G T' G':Nat):∀ (l:List Stmt) (deep p:Nat),(genL E T G deep p l).length=(genL E T' G' deep p l).length
 |[],_,_=>by simp [genL]
 |s :: l,deep,p=>by
  have h1:=len_stmt E T G T' G' s deep p
  simp only [genL,List.length_append,h1]
  rw [len_list E T G T' G' l deep _]
end
def setK (v:Int)(i:Inst):Inst:={ i with k:=v}
def landL (out:List Inst):List Nat->Int->List Inst
 |[],_=>out
 |k :: l,v=>landL (out.modify k (setK v)) l v
theorem landL_append (out:List Inst)(l l2:List Nat)(v:Int):landL out (l++l2) v=landL (landL out l v) l2 v:=by
 induction l generalizing out with
 |nil=>rfl
 |cons k l ih=>simp only [List.cons_append,landL];exact ih _
theorem landL_length (out:List Inst)(l:List Nat)(v:Int):(landL out l v).length=out.length:=by
 induction l generalizing out with
 |nil=>rfl
 |cons k l ih=>simp only [landL];rw [ih,List.length_modify]
theorem modify_at (A B:List Inst)(i:Inst)(f:Inst->Inst):(A++(i :: B)).modify A.length f=A++(f i :: B):=by
 induction A with
 |nil=>simp
 |cons a A ih=>simp [ih]
theorem insts_append (a b:List CI):insts (a++b)=insts a++insts b:=by simp [insts]
theorem insts_length (a:List CI):(insts a).length=a.length:=by simp [insts]
theorem insts_cons (x:CI)(b:List CI):insts (x :: b)=x.1 :: insts b:=rfl
theorem draw_land (E:Env)(p d T T':Nat)(A B:List Inst)(hA:A.length=p):
  landL (A++(insts (ci 1 23 0 0 0 (2 ^ E.bits - 1) :: eachC E.n (p+1) (drawB E (p+2) d T))++B)) [p+5] T'=A++(insts (ci 1 23 0 0 0 (2 ^ E.bits - 1) :: eachC E.n (p+1) (drawB E (p+2) d T'))++B):=by
 have key:∀ T:Nat,A++(insts (ci 1 23 0 0 0 (2 ^ E.bits - 1) :: eachC E.n (p+1) (drawB E (p+2) d T))++B)=
   (A++insts [ci 1 23 0 0 0 (2 ^ E.bits - 1),ci 1 9 0 0 0 0,ci 15 12 0 0 0 1,ci 15 13 0 0 0 0,ci 13 16 12 13 0 0])++((⟨18,0,16,0,0,(T:Nat)⟩:Inst) :: (insts ([ci 15 15 12 0 0 (E.fin:Nat),(⟨3,12,12,1,0,0⟩,⟨1,4096⟩),ci 16 0 0 12 0 1,
  ci 7 15 15 23 0 0,ci 13 16 15 19 0 0,ci 18 0 16 0 0 ((p+2:Nat):Int),stC E 15 d]++[upC E.n 9,ci 13 16 9 10 0 0,ci 19 0 16 0 0 ((p+1+1:Nat):Int)])++B)):=by
  intro T
  simp [insts,eachC,drawB,ci]
 rw [key T,key T']
 have e:p+5=(A++insts [ci 1 23 0 0 0 (2 ^ E.bits - 1),ci 1 9 0 0 0 0,ci 15 12 0 0 0 1,ci 15 13 0 0 0 0,ci 13 16 12 13 0 0]).length:=by simp [insts,hA]
 simp only [landL]
 rw [e,modify_at]
 rfl
mutual
theorem landT_stmt (E:Env)(G T':Nat):∀ (s:Stmt) (deep p:Nat) (A B:List Inst),A.length=p->landL (A++(insts (genS E 0 G deep p s)++B)) (posTS E deep p s) T'=A++(insts (genS E T' G deep p s)++B)
 |⟨op,d,a,b,e,k,body,els⟩,deep,p,A,B,hA=>by
  unfold genS posTS
  split
  ·dsimp only
   have l1:=len_list E 0 G 0 0 body (deep+1) (p+2)
   have l2:=len_list E T' G 0 0 body (deep+1) (p+2)
   rw [l1,l2]
   have l3:=len_list E 0 G T' G els (deep+1) (p+2+(genL E 0 0 (deep+1) (p+2) body).length+1)
   rw [l3]
   simp only [insts_append,insts_cons,List.append_assoc,landL_append]
   have h1:=landT_list E G T' body (deep+1) (p+2)
   have h2:=landT_list E G T' els (deep+1) (p+2+(genL E 0 0 (deep+1) (p+2) body).length+1)
   rw [<-List.append_assoc A,h1 _ _ (by simp [insts,hA])]
   have:=h2 (A++insts [ci 15 12 0 0 0 (E.place a.toNat:Nat),ci 18 0 12 0 0 ((p+2+(genL E 0 0 (deep+1) (p+2) body).length+1:Nat):Int)]++(insts (genL E T' G (deep+1) (p+2) body)++[(ci 17 0 0 0 0 ((p+2+(genL E 0 0 (deep+1) (p+2) body).length+1+(genL E T' G (deep+1) (p+2+(genL E 0 0 (deep+1) (p+2) body).length+1) els).length:Nat):Int)).1])) B (by simp [insts_length,l2,hA];omega)
   simp only [List.append_assoc,List.cons_append,List.nil_append] at this ⊢
   exact this
  ·split
   ·have l1:=len_list E 0 G T' G body (deep+1) (p+1)
    simp only [insts_append,insts_cons,List.append_assoc,List.cons_append]
    have h1:=landT_list E G T' body (deep+1) (p+1) (A++[(ci 1 (2+deep:Nat) 0 0 0 k).1]) (insts [(⟨4,(2+deep:Nat),(2+deep:Nat),1,0,0⟩,⟨0,k⟩),ci 19 0 (2+deep:Nat) 0 0 ((p+1:Nat):Int)]++B) (by simp [hA])
    simp only [List.append_assoc,List.cons_append,List.nil_append] at h1 ⊢
    exact h1
   ·split
    ·have l1:=len_list E 0 G T' G body (deep+1) (p+1)
     dsimp only
     rw [l1]
     simp only [insts_append,insts_cons,List.append_assoc,List.cons_append]
     have h1:=landT_list E G T' body (deep+1) (p+1) (A++[(ci 1 (2+deep:Nat) 0 0 0 k).1]) (insts [ci 15 12 0 0 0 (E.place a.toNat:Nat),ci 19 0 12 0 0 ((p+1+(genL E T' G (deep+1) (p+1) body).length+5:Nat):Int),
    (⟨4,(2+deep:Nat),(2+deep:Nat),1,0,0⟩,⟨0,k⟩),ci 19 0 (2+deep:Nat) 0 0 ((p+1:Nat):Int),ci 17 0 0 0 0 (G:Nat)]++B) (by simp [hA])
     simp only [List.append_assoc,List.cons_append,List.nil_append,insts_cons] at h1 ⊢
     exact h1
    ·split
     ·rename_i h13
      subst h13
      have:=draw_land E p d.toNat 0 T' A B hA
      simp only [vecC]
      simp only [show¬(13:Int)=1 by decide,show¬((13:Int)=2\/(13:Int)=12) by decide,show¬(13:Int)=3 by decide,show¬(13:Int)=4 by decide,show¬(13:Int)=5 by decide,show¬(13:Int)=6 by decide,
       show¬(13:Int)=7 by decide,show¬(13:Int)=8 by decide,show¬(13:Int)=9 by decide,show¬(13:Int)=10 by decide,show¬(13:Int)=11 by decide,if_false,if_true]
      exact this
     ·rename_i h13
      have e1:vecC E p 0 ⟨op,d,a,b,e,k,[],[]⟩=vecC E p T' ⟨op,d,a,b,e,k,[],[]⟩:=by unfold vecC;simp only [h13,if_false]
      rw [e1];rfl
theorem landT_list (E:Env)(G T':Nat):∀ (l:List Stmt) (deep p:Nat) (A B:List Inst),A.length=p->landL (A++(insts (genL E 0 G deep p l)++B)) (posTL E deep p l) T'=A++(insts (genL E T' G deep p l)++B)
 |[],_,_,A,B,_=>by simp [genL,posTL,landL,insts]
 |s :: l,deep,p,A,B,hA=>by
  simp only [genL,posTL,landL_append,insts_append,List.append_assoc]
  have l1:=len_stmt E 0 G 0 0 s deep p
  have l2:=len_stmt E T' G 0 0 s deep p
  rw [l1,l2]
  rw [landT_stmt E G T' s deep p A _ hA]
  have:=landT_list E G T' l deep (p+(genS E 0 0 deep p s).length) (A++insts (genS E T' G deep p s)) B (by simp [insts_length,l2,hA])
  simp only [List.append_assoc] at this
  exact this
end
mutual
theorem landG_stmt (E:Env)(T G':Nat):∀ (s:Stmt) (deep p:Nat) (A B:List Inst),A.length=p->landL (A++(insts (genS E T 0 deep p s)++B)) (posGS E deep p s) G'=A++(insts (genS E T G' deep p s)++B)
 |⟨op,d,a,b,e,k,body,els⟩,deep,p,A,B,hA=>by
  unfold genS posGS
  split
  ·dsimp only
   have l1:=len_list E T 0 0 0 body (deep+1) (p+2)
   have l2:=len_list E T G' 0 0 body (deep+1) (p+2)
   rw [l1,l2]
   have l3:=len_list E T 0 T G' els (deep+1) (p+2+(genL E 0 0 (deep+1) (p+2) body).length+1)
   rw [l3]
   simp only [insts_append,insts_cons,List.append_assoc,landL_append]
   have h1:=landG_list E T G' body (deep+1) (p+2)
   have h2:=landG_list E T G' els (deep+1) (p+2+(genL E 0 0 (deep+1) (p+2) body).length+1)
   rw [<-List.append_assoc A,h1 _ _ (by simp [insts,hA])]
   have:=h2 (A++insts [ci 15 12 0 0 0 (E.place a.toNat:Nat),ci 18 0 12 0 0 ((p+2+(genL E 0 0 (deep+1) (p+2) body).length+1:Nat):Int)]++(insts (genL E T G' (deep+1) (p+2) body)++[(ci 17 0 0 0 0 ((p+2+(genL E 0 0 (deep+1) (p+2) body).length+1+(genL E T G' (deep+1) (p+2+(genL E 0 0 (deep+1) (p+2) body).length+1) els).length:Nat):Int)).1])) B (by simp [insts_length,l2,hA];omega)
   simp only [List.append_assoc,List.cons_append,List.nil_append] at this ⊢
   exact this
  ·split
   ·have l1:=len_list E T 0 T G' body (deep+1) (p+1)
    simp only [insts_append,insts_cons,List.append_assoc,List.cons_append]
    have h1:=landG_list E T G' body (deep+1) (p+1) (A++[(ci 1 (2+deep:Nat) 0 0 0 k).1]) (insts [(⟨4,(2+deep:Nat),(2+deep:Nat),1,0,0⟩,⟨0,k⟩),ci 19 0 (2+deep:Nat) 0 0 ((p+1:Nat):Int)]++B) (by simp [hA])
    simp only [List.append_assoc,List.cons_append,List.nil_append] at h1 ⊢
    exact h1
   ·split
    ·have l1:=len_list E T 0 T G' body (deep+1) (p+1)
     have l0:=len_list E 0 0 T G' body (deep+1) (p+1)
     dsimp only
     rw [l1,l0]
     simp only [insts_append,insts_cons,List.append_assoc,List.cons_append,landL_append]
     have h1:=landG_list E T G' body (deep+1) (p+1) (A++[(ci 1 (2+deep:Nat) 0 0 0 k).1]) (insts [ci 15 12 0 0 0 (E.place a.toNat:Nat),ci 19 0 12 0 0 ((p+1+(genL E T G' (deep+1) (p+1) body).length+5:Nat):Int),
    (⟨4,(2+deep:Nat),(2+deep:Nat),1,0,0⟩,⟨0,k⟩),ci 19 0 (2+deep:Nat) 0 0 ((p+1:Nat):Int),ci 17 0 0 0 0 ((0:Nat):Int)]++B) (by simp [hA])
     simp only [List.append_assoc,List.cons_append,List.nil_append,insts_cons] at h1 ⊢
     rw [h1]
     have e2:∀ Z:Inst,A++((ci 1 (2+deep:Nat) 0 0 0 k).1 :: (insts (genL E T G' (deep+1) (p+1) body)++((ci 15 12 0 0 0 (E.place a.toNat:Nat)).1 :: (ci 19 0 12 0 0 ((p+1+(genL E T G' (deep+1) (p+1) body).length+5:Nat):Int)).1 ::
      (⟨4,(2+deep:Nat),(2+deep:Nat),1,0,0⟩:Inst) :: (ci 19 0 (2+deep:Nat) 0 0 ((p+1:Nat):Int)).1 :: Z :: (insts []++B))))=
      (A++((ci 1 (2+deep:Nat) 0 0 0 k).1 :: (insts (genL E T G' (deep+1) (p+1) body)++[(ci 15 12 0 0 0 (E.place a.toNat:Nat)).1,(ci 19 0 12 0 0 ((p+1+(genL E T G' (deep+1) (p+1) body).length+5:Nat):Int)).1,
      (⟨4,(2+deep:Nat),(2+deep:Nat),1,0,0⟩:Inst),(ci 19 0 (2+deep:Nat) 0 0 ((p+1:Nat):Int)).1])))++(Z :: (insts []++B)):=by intro Z;simp
     simp only [landL]
     rw [e2,e2]
     have e3:p+1+(genL E T G' (deep+1) (p+1) body).length+4=(A++((ci 1 (2+deep:Nat) 0 0 0 k).1 :: (insts (genL E T G' (deep+1) (p+1) body)++[(ci 15 12 0 0 0 (E.place a.toNat:Nat)).1,(ci 19 0 12 0 0 ((p+1+(genL E T G' (deep+1) (p+1) body).length+5:Nat):Int)).1,
      (⟨4,(2+deep:Nat),(2+deep:Nat),1,0,0⟩:Inst),(ci 19 0 (2+deep:Nat) 0 0 ((p+1:Nat):Int)).1]))).length:=by simp [insts_length,hA];omega
     rw [e3,modify_at]
     rfl
    ·rfl
theorem landG_list (E:Env)(T G':Nat):∀ (l:List Stmt) (deep p:Nat) (A B:List Inst),A.length=p->landL (A++(insts (genL E T 0 deep p l)++B)) (posGL E deep p l) G'=A++(insts (genL E T G' deep p l)++B)
 |[],_,_,A,B,_=>by simp [genL,posGL,landL,insts]
 |s :: l,deep,p,A,B,hA=>by
  simp only [genL,posGL,landL_append,insts_append,List.append_assoc]
  have l1:=len_stmt E T 0 0 0 s deep p
  have l2:=len_stmt E T G' 0 0 s deep p
  rw [l1,l2]
  rw [landG_stmt E T G' s deep p A _ hA]
  have:=landG_list E T G' l deep (p+(genS E 0 0 deep p s).length) (A++insts (genS E T G' deep p s)) B (by simp [insts_length,l2,hA])
  simp only [List.append_assoc] at this
  exact this
end
structure Var where
 kind:Int
 secret:Bool
deriving DecidableEq,Repr,Inhabited
structure Prog where
 q:Int
 n:Int
 vars:List Var
 body:List Stmt
structure Fault where
 code:Int
 placed:Bool
 pos:Int
deriving DecidableEq,Repr,Inhabited
def Fault.fine:Fault:=⟨0,false,0⟩
def Fault.bare (c:Int):Fault:=⟨c,false,0⟩
def Fault.at_ (c:Int)(i:Int):Fault:=⟨c,true,i⟩
def isPrime (q:Int):Bool:=q == 17 || q == 97 || q == 257 || q == 3329 || q == 7681 || q == 12289 || q == 8380417
def isSize (n:Int):Bool:=n == 4 || n == 8 || n == 16 || n == 32 || n == 64 || n == 128 || n == 256
def ringOk (q n:Int):Bool:=isPrime q && isSize n
mutual
def flatS:Stmt->List Stmt
 |⟨op,d,a,b,c,k,body,els⟩=>⟨op,d,a,b,c,k,body,els⟩ :: (flatL body++flatL els)
def flatL:List Stmt->List Stmt
 |[]=>[]
 |s :: l=>flatS s++flatL l
end
mutual
def depthS:Stmt->Int
 |⟨_,_,_,_,_,_,body,els⟩=>max 0 (max (depthL body) (depthL els)+1)
def depthL:List Stmt->Int
 |[]=> -1
 |s :: l=>max (depthS s) (depthL l)
end
structure Has where
 d:Bool
 a:Bool
 b:Bool
 c:Bool
 k:Bool
 body:Bool
 other:Bool
deriving DecidableEq,Repr
def hasOf (op:Int):Option Has:=
 if op=1\/op=13 then some ⟨true,false,false,false,false,false,false⟩ else
 if op=2\/op=12 then some ⟨true,true,false,false,false,false,false⟩ else
 if op=3\/op=4\/op=5\/op=7 then some ⟨true,true,true,false,false,false,false⟩ else
 if op=6\/op=8\/op=9\/op=11 then some ⟨true,true,false,false,true,false,false⟩ else
 if op=10 then some ⟨true,true,true,true,false,false,false⟩ else
 if op=14 then some ⟨false,true,false,false,false,true,true⟩ else
 if op=15 then some ⟨false,false,false,false,true,true,false⟩ else
 if op=16 then some ⟨false,true,false,false,true,true,false⟩ else none
def usesOf (s:Stmt):List Int:=
 match hasOf s.op with
 |none=>[]
 |some h=>(if h.a then [s.a] else [])++((if h.b then [s.b] else [])++(if h.c then [s.c] else []))
def numOk (q:Int)(s:Stmt):Bool:=
 if s.op=6 then decide (0<=s.k/\s.k<q) else
 if s.op=8\/s.op=9 then decide (1<=s.k/\s.k<=30/\(2:Int) ^ s.k.toNat<q) else
 if s.op=11 then decide (0<=s.k/\s.k<=q) else
 if s.op=15\/s.op=16 then decide (1<=s.k/\s.k<=50) else true
def varAt (vars:List Var)(v:Int):Var:=vars.getD v.toNat ⟨0,false⟩
def oneF (q:Int)(vars:List Var)(s:Stmt):Int:=
 match hasOf s.op with
 |none=>106
 |some h=>
  if (usesOf s++(if h.d then [s.d] else [])).any (fun v=>decide (v<0\/v>=vars.length)) then 107 else
  if (!h.d && s.d !=0) || (!h.a && s.a !=0) || (!h.b && s.b !=0) || (!h.c && s.c !=0) || (!h.k && s.k !=0) || (!h.body && !s.body.isEmpty) || (!h.other && !s.els.isEmpty) then 104 else
  if h.d && (varAt vars s.d).kind == 1 then 104 else
  if !numOk q s then 101 else 0
def firstF (f:Stmt->Int):List Stmt->Int->Fault
 |[],_=> .fine
 |s :: l,i=>if f s≠0 then .at_ (f s) i else firstF f l (i+1)
def firstK:List Var->Int->Fault
 |[],_=> .fine
 |v :: l,i=>if v.kind=1\/v.kind=2\/v.kind=3 then firstK l (i+1) else .at_ 101 i
def validF (p:Prog):Fault:=
 if !ringOk p.q p.n then .bare 101 else
 if p.vars.length > 12 then .bare 103 else
 if (firstK p.vars 0).code≠0 then firstK p.vars 0 else
 if (flatL p.body).length > 100\/depthL p.body > 6 then .bare 103 else
 firstF (oneF p.q p.vars) (flatL p.body) 0
def breaksB (vars:List Var)(s:Stmt):Bool:=
 let secret:=(usesOf s).any fun v=>(varAt vars v).secret
 if s.op=12 then false else
 if s.op=13 then !(varAt vars s.d).secret else
 if 1<=s.op/\s.op<=11 then secret && !(varAt vars s.d).secret else secret
def checkF (p:Prog):Fault:=
 if (validF p).code≠0 then validF p else firstF (fun s=>if breaksB p.vars s then 108 else 0) (flatL p.body) 0
theorem firstF_fine {f:Stmt->Int}:∀ (l:List Stmt) (i:Int),(firstF f l i).code=0->∀ s∈l,f s=0:=by
 intro l
 induction l with
 |nil=>intro i _ s hs;simp at hs
 |cons s l ih=>
  intro i h t ht
  unfold firstF at h
  split at h
  ·rename_i h1;exact absurd h h1
  ·rename_i h1
   rcases List.mem_cons.1 ht with rfl|ht
   ·simpa using h1
   ·exact ih _ h t ht
theorem firstF_ok {f:Stmt->Int}:∀ (l:List Stmt) (i:Int),(∀ s∈l,f s=0)->firstF f l i= .fine:=by
 intro l
 induction l with
 |nil=>intro i _;rfl
 |cons s l ih=>
  intro i h
  unfold firstF
  rw [if_neg (by simp [h s List.mem_cons_self])]
  exact ih _ fun t ht=>h t (List.mem_cons_of_mem _ ht)
def envOf (p:Prog)(bits:Nat):Env:=⟨p.q.toNat,p.n.toNat,p.vars.length,bits⟩
theorem ite_zero {c:Prop} [Decidable c]{a b:Int}(h:(if c then a else b)=0)(ha:a≠0):¬c/\b=0:=by
 by_cases hc:c
 ·rw [if_pos hc] at h;exact absurd h ha
 ·rw [if_neg hc] at h;exact⟨hc,h⟩
theorem oneF_parts {q:Int}{vars:List Var}{s:Stmt}(h:oneF q vars s=0):∃ g,hasOf s.op=some g/\(∀ v∈usesOf s++(if g.d then [s.d] else []),0<=v/\v<vars.length)/\numOk q s=true/\(g.d=true->(varAt vars s.d).kind≠1):=by
 unfold oneF at h
 cases hg:hasOf s.op with
 |none=>rw [hg] at h;simp at h
 |some g=>
  rw [hg] at h
  dsimp only at h
  obtain⟨h1,h⟩:=ite_zero h (by decide)
  obtain⟨_,h⟩:=ite_zero h (by decide)
  obtain⟨h3,h⟩:=ite_zero h (by decide)
  obtain⟨h2,_⟩:=ite_zero h (by decide)
  refine⟨g,rfl,fun v hv=>?_,by simpa using h2,fun hd hk=>h3 (by simp [hd,hk])⟩
  have h4:¬(v<0\/v>=vars.length):=fun hh=>h1 (List.any_eq_true.2 ⟨v,hv,by simpa using hh⟩)
  omega
theorem oneF_good {E:Env}{q:Int}{vars:List Var}{s:Stmt}(hE:(E.q:Int)=q)(hv:E.nv=vars.length)(h:oneF q vars s=0):
  (s.op=14->isVar E s.a)/\(s.op=15->1<=s.k/\s.k<=50)/\(s.op=16->1<=s.k/\s.k<=50/\isVar E s.a)/\(1<=s.op/\s.op<=16)/\(s.op<=13->GoodV E ⟨s.op,s.d,s.a,s.b,s.c,s.k,[],[]⟩):=by
 obtain⟨g,hg,hvars,hnum,_⟩:=oneF_parts h
 obtain⟨op,d,a,b,c,k,body,els⟩:=s
 dsimp only at hg ⊢
 have hop:1<=op/\op<=16:=by
  rcases Decidable.em (1<=op/\op<=16) with h1|h1
  ·exact h1
  ·have:hasOf op=none:=by unfold hasOf;repeat' (rw [if_neg (by omega)])
   rw [this] at hg;simp at hg
 have hcases:op=1\/op=2\/op=3\/op=4\/op=5\/op=6\/op=7\/op=8\/op=9\/op=10\/op=11\/op=12\/op=13\/op=14\/op=15\/op=16:=by omega
 have hvar:∀ v,0<=v/\v<(vars.length:Int)->isVar E v:=fun v hh=>by unfold isVar;omega
 rcases hcases with e|e|e|e|e|e|e|e|e|e|e|e|e|e|e|e<;> subst e<;> simp [hasOf] at hg<;> subst hg<;> simp [usesOf,hasOf] at hvars<;> simp [numOk] at hnum<;>
  refine⟨fun hh=>?_,fun hh=>?_,fun hh=>?_,hop,fun hh=>?_⟩<;> first|omega|exact hvar _ hvars|exact hnum|exact⟨hnum.1,hnum.2,hvar _ hvars⟩|skip
 all_goals
  refine⟨by dsimp only;omega,?_,fun h1 h2=>?_,fun h1=>?_,fun h1=>?_,fun h1=>?_,fun h1=>?_,fun h1=>?_⟩<;> dsimp only at * <;>
  first|omega|exact hvar _ hvars|exact hvar _ hvars.1|exact hvar _ hvars.2|exact hvar _ hvars.2.1|exact hvar _ hvars.2.2|exact hvar _ hvars.2.2.1|exact hvar _ hvars.2.2.2|(rw [hE];exact hnum)|skip
mutual
theorem good_stmt {E:Env}{q:Int}{vars:List Var}(hE:(E.q:Int)=q)(hv:E.nv=vars.length):∀ (s:Stmt) (deep:Nat),(∀ t∈flatS s,oneF q vars t=0)->(deep:Int)+depthS s<=6->GoodS E deep s
 |⟨op,d,a,b,c,k,body,els⟩,deep,h,hd=>by
  have h0:=h ⟨op,d,a,b,c,k,body,els⟩ (by simp [flatS])
  obtain⟨g1,g2,g3,g4,g5⟩:=oneF_good hE hv h0
  dsimp only at g1 g2 g3 g4 g5
  simp only [depthS] at hd
  have hb:∀ t∈flatL body,oneF q vars t=0:=fun t ht=>h t (by simp [flatS,ht])
  have he:∀ t∈flatL els,oneF q vars t=0:=fun t ht=>h t (by simp [flatS,ht])
  have b1:=good_list hE hv body (deep+1) hb (by omega)
  have b2:=good_list hE hv els (deep+1) he (by omega)
  unfold GoodS
  refine⟨by omega,?_⟩
  have:op=14\/op=15\/op=16\/op<=13:=by omega
  rcases this with e|e|e|e
  ·exact .inl ⟨e,g1 e,b1,b2⟩
  ·exact .inr (.inl ⟨e,(g2 e).1,(g2 e).2,b1⟩)
  ·exact .inr (.inr (.inl ⟨e,(g3 e).1,(g3 e).2.1,(g3 e).2.2,b1⟩))
  ·exact .inr (.inr (.inr (g5 e)))
theorem good_list {E:Env}{q:Int}{vars:List Var}(hE:(E.q:Int)=q)(hv:E.nv=vars.length):∀ (l:List Stmt) (deep:Nat),(∀ t∈flatL l,oneF q vars t=0)->(deep:Int)+depthL l<=6->GoodL E deep l
 |[],_,_,_=>by unfold GoodL;trivial
 |s :: l,deep,h,hd=>by
  simp only [depthL] at hd
  unfold GoodL
  exact⟨good_stmt hE hv s deep (fun t ht=>h t (by simp [flatL,ht])) (by omega),good_list hE hv l deep (fun t ht=>h t (by simp [flatL,ht])) (by omega)⟩
end
theorem prime_facts {q:Int}(h:isPrime q=true):17<=q/\q<8388608:=by
 simp [isPrime] at h;omega
theorem size_facts {n:Int}(h:isSize n=true):4<=n/\n<=256:=by
 simp [isSize] at h;omega
structure Fine (p:Prog):Prop where
 q:17<=p.q/\p.q<8388608
 n:4<=p.n/\p.n<=256
 prime:isPrime p.q=true
 size:isSize p.n=true
 vars:p.vars.length<=12
 kinds:∀ v∈p.vars,v.kind=1\/v.kind=2\/v.kind=3
 flat:(flatL p.body).length<=100
 depth:depthL p.body<=6
 one:∀ s∈flatL p.body,oneF p.q p.vars s=0
 secret:∀ s∈flatL p.body,breaksB p.vars s=false
theorem firstK_fine:∀ (l:List Var) (i:Int),(firstK l i).code=0->∀ v∈l,v.kind=1\/v.kind=2\/v.kind=3:=by
 intro l
 induction l with
 |nil=>intro i _ v hv;simp at hv
 |cons s l ih=>
  intro i h t ht
  unfold firstK at h
  split at h
  ·rename_i h1
   rcases List.mem_cons.1 ht with rfl|ht
   ·exact h1
   ·exact ih _ h t ht
  ·simp [Fault.at_] at h
theorem fine_of_check {p:Prog}(h:(checkF p).code=0):Fine p:=by
 unfold checkF at h
 by_cases hv:(validF p).code≠0
 ·rw [if_pos hv] at h;exact absurd h hv
 rw [if_neg hv] at h
 have hv:(validF p).code=0:=by omega
 unfold validF at hv
 by_cases h1:(!ringOk p.q p.n)=true
 ·rw [if_pos h1] at hv;simp [Fault.bare] at hv
 rw [if_neg h1] at hv
 by_cases h2:p.vars.length > 12
 ·rw [if_pos h2] at hv;simp [Fault.bare] at hv
 rw [if_neg h2] at hv
 by_cases h3:(firstK p.vars 0).code≠0
 ·rw [if_pos h3] at hv;exact absurd hv h3
 rw [if_neg h3] at hv
 by_cases h4:(flatL p.body).length > 100\/depthL p.body > 6
 ·rw [if_pos h4] at hv;simp [Fault.bare] at hv
 rw [if_neg h4] at hv
 have hr:isPrime p.q=true/\isSize p.n=true:=by simpa [ringOk] using h1
 refine⟨prime_facts hr.1,size_facts hr.2,hr.1,hr.2,by omega,firstK_fine _ 0 (by simpa using h3),by omega,by omega,firstF_fine _ _ hv,fun s hs=>?_⟩
 have:=firstF_fine _ _ h s hs
 cases hb:breaksB p.vars s with
 |false=>rfl
 |true=>rw [hb] at this;simp at this
theorem Fine.check {p:Prog}(h:Fine p):checkF p= .fine:=by
 have h1:validF p= .fine:=by
  have hk:∀ (l:List Var) (i:Int),(∀ v∈l,v.kind=1\/v.kind=2\/v.kind=3)->firstK l i= .fine:=by
   intro l
   induction l with
   |nil=>intro i _;rfl
   |cons v l ih=>intro i h;unfold firstK;rw [if_pos (h v List.mem_cons_self)];exact ih _ fun t ht=>h t (List.mem_cons_of_mem _ ht)
  unfold validF
  rw [if_neg (by simp [ringOk,h.prime,h.size]),if_neg (by have:=h.vars;omega),hk _ _ h.kinds,if_neg (by simp [Fault.fine]),if_neg (by have:=h.flat;have:=h.depth;omega)]
  exact firstF_ok _ _ h.one
 unfold checkF
 rw [h1,if_neg (by simp [Fault.fine])]
 exact firstF_ok _ _ fun s hs=>by simp [h.secret s hs]
def bitsOf (q:Int):Nat:=if q=17 then 5 else if q=97 then 7 else if q=257 then 9 else if q=3329 then 12 else if q=7681 then 13 else if q=12289 then 14 else 23
theorem env_ok {p:Prog}(h:Fine p):(envOf p (bitsOf p.q)).Ok:=by
 have:=h.q;have:=h.n;have:=h.vars
 have hp:=h.prime
 simp [isPrime] at hp
 refine⟨?_,?_,?_,?_,?_,?_,?_⟩<;> simp only [envOf]
 ·omega
 ·omega
 ·omega
 ·omega
 ·omega
 ·unfold bitsOf;repeat' split
  all_goals omega
 ·rcases hp with (((((e|e)|e)|e)|e)|e)|e<;> simp [bitsOf,e]
theorem good_prog {p:Prog}(h:Fine p)(bits:Nat):GoodL (envOf p bits) 0 p.body:=
 good_list (q:=p.q) (vars:=p.vars) (by have:=h.q;simp [envOf];omega) rfl _ _ h.one (by have:=h.depth;omega)
def kindsFrom:List Var->Int->Int->List Int
 |[],_,_=>[]
 |v :: l,k,i=>if v.kind=k then i :: kindsFrom l k (i+1) else kindsFrom l k (i+1)
def kindsOf (vars:List Var)(k:Int):List Int:=kindsFrom vars k 0
theorem kindsFrom_range:∀ (l:List Var) (k i:Int) (v:Int),v∈kindsFrom l k i->i<=v/\v<i+l.length:=by
 intro l
 induction l with
 |nil=>intro k i v h;simp [kindsFrom] at h
 |cons x l ih=>
  intro k i v h
  unfold kindsFrom at h
  simp only [List.length_cons]
  split at h
  ·rcases List.mem_cons.1 h with rfl|h
   ·omega
   ·have:=ih _ _ _ h;omega
  ·have:=ih _ _ _ h;omega
theorem kindsOf_range {vars:List Var}{k v:Int}(h:v∈kindsOf vars k):0<=v/\v<vars.length:=by
 have:=kindsFrom_range _ _ _ _ h;omega
def vectorF (q n:Int)(a:List Int):Int:=
 if !ringOk q n then 101 else if (a.length:Int)≠n then 102 else if a.any (fun x=>decide (x<0\/x>=q)) then 101 else 0
def firstV (q n:Int):List (List Int)->Int->Fault
 |[],_=> .fine
 |a :: l,i=>if vectorF q n a≠0 then .at_ (vectorF q n a) i else firstV q n l (i+1)
def inputsF (q n:Int)(vars:List Var)(ins:List (List Int))(tape:List Int)(fuel:Int):Fault:=
 if ins.length≠(kindsOf vars 1).length then .bare 102 else
 if (firstV q n ins 0).code≠0 then firstV q n ins 0 else
 if tape.length > 4096 then .bare 102 else
 if fuel<0\/fuel > 1073741824 then .bare 101 else .fine
theorem firstV_fine {q n:Int}:∀ (l:List (List Int)) (i:Int),(firstV q n l i).code=0->∀ a∈l,vectorF q n a=0:=by
 intro l
 induction l with
 |nil=>intro i _ a ha;simp at ha
 |cons a l ih=>
  intro i h t ht
  unfold firstV at h
  split at h
  ·rename_i h1;exact absurd h h1
  ·rename_i h1
   rcases List.mem_cons.1 ht with rfl|ht
   ·omega
   ·exact ih _ h t ht
theorem vectorF_fine {q n:Int}{a:List Int}(h:vectorF q n a=0):(a.length:Int)=n/\∀ x∈a,0<=x/\x<q:=by
 unfold vectorF at h
 obtain⟨_,h⟩:=ite_zero h (by decide)
 obtain⟨h2,h⟩:=ite_zero h (by decide)
 obtain⟨h3,_⟩:=ite_zero h (by decide)
 refine⟨by omega,fun x hx=>?_⟩
 have:¬(x<0\/x>=q):=fun hh=>h3 (List.any_eq_true.2 ⟨x,hx,by simpa using hh⟩)
 omega
structure InOk (p:Prog)(ins:List (List Int))(tape:List Int):Prop where
 len:ins.length=(kindsOf p.vars 1).length
 vec:∀ a∈ins,(a.length:Int)=p.n/\∀ x∈a,0<=x/\x<p.q
 tape:tape.length<=4096
theorem inOk_of {p:Prog}{ins:List (List Int)}{tape:List Int}{fuel:Int}(h:(inputsF p.q p.n p.vars ins tape fuel).code=0):InOk p ins tape:=by
 unfold inputsF at h
 by_cases h1:ins.length≠(kindsOf p.vars 1).length
 ·rw [if_pos h1] at h;simp [Fault.bare] at h
 rw [if_neg h1] at h
 by_cases h2:(firstV p.q p.n ins 0).code≠0
 ·rw [if_pos h2] at h;exact absurd h h2
 rw [if_neg h2] at h
 by_cases h3:tape.length > 4096
 ·rw [if_pos h3] at h;simp [Fault.bare] at h
 exact⟨by omega,fun a ha=>vectorF_fine (firstV_fine _ 0 (by simpa using h2) a ha),by omega⟩
def setIns (L:List (List Int)):List Int->List (List Int)->List (List Int)
 |v :: l,a :: ins=>setIns (L.set v.toNat a) l ins
 |_,_=>L
def V0 (p:Prog)(ins:List (List Int)):List (List Int):=setIns (List.replicate p.vars.length (List.replicate p.n.toNat 0)) (kindsOf p.vars 1) ins
def Vof (L:List (List Int)):Vs:=fun v k=>(L.getD v []).getD k 0
def setRow (m:List Int)(at_:Nat):List Int->List Int
 |[]=>m
 |x :: l=>setRow (m.set at_ x) (at_+1) l
def placeF (p:Prog)(v:Int):Int:=2+v * p.n
def endF (p:Prog):Int:=2+p.vars.length * p.n
def setRows (p:Prog)(m:List Int):List Int->List (List Int)->List Int
 |v :: l,a :: ins=>setRows p (setRow m (placeF p v).toNat a) l ins
 |_,_=>m
def memF (p:Prog)(mem:Int)(ins:List (List Int))(tape:List Int):List Int:=
 setRow (setRows p ((List.replicate mem.toNat 0).set 0 tape.length) (kindsOf p.vars 1) ins) (endF p).toNat tape
theorem getD_set (l:List Int)(i j:Nat)(x:Int)(h:i<l.length):(l.set i x).getD j 0=if j=i then x else l.getD j 0:=by
 simp only [List.getD_eq_getElem?_getD,List.getElem?_set]
 by_cases e:i=j
 ·subst e;simp [h]
 ·rw [if_neg e,if_neg (fun h=>e h.symm)]
theorem setRow_length:∀ (l:List Int) (m:List Int) (a:Nat),(setRow m a l).length=m.length:=by
 intro l;induction l with
 |nil=>intro m a;rfl
 |cons x l ih=>intro m a;unfold setRow;rw [ih];simp
theorem getD_setRow:∀ (l:List Int) (m:List Int) (a j:Nat),a+l.length<=m.length->(setRow m a l).getD j 0=if a<=j/\j<a+l.length then l.getD (j - a) 0 else m.getD j 0:=by
 intro l;induction l with
 |nil=>intro m a j _;unfold setRow;simp;omega
 |cons x l ih=>
  intro m a j h
  simp only [List.length_cons] at h
  unfold setRow
  rw [ih _ _ _ (by simp;omega),getD_set _ _ _ _ (by omega)]
  simp only [List.length_cons]
  by_cases h1:j=a
  ·subst h1;rw [if_neg (by omega),if_pos rfl,if_pos (by omega)];simp
  ·rw [if_neg h1]
   by_cases h2:a+1<=j/\j<a+1+l.length
   ·rw [if_pos h2,if_pos (by omega),show j - a=(j - (a+1))+1 from by omega];simp
   ·rw [if_neg h2,if_neg (by omega)]
theorem Vof_set (L:List (List Int))(d:Nat)(a:List Int)(v k:Nat)(h:d<L.length):Vof (L.set d a) v k=if v=d then a.getD k 0 else Vof L v k:=by
 unfold Vof
 simp only [List.getD_eq_getElem?_getD,List.getElem?_set]
 by_cases e:d=v
 ·subst e;simp [h]
 ·rw [if_neg e,if_neg (fun h=>e h.symm)]
theorem rows_ok {p:Prog}{E:Env}(hn:E.n=p.n.toNat)(hnp:0<=p.n)(hv:E.nv=p.vars.length):∀ (ks:List Int) (ins:List (List Int)) (m:List Int) (L:List (List Int)),
  (∀ v∈ks,0<=v/\v<p.vars.length)->(∀ a∈ins,(a.length:Int)=p.n/\∀ x∈a,0<=x/\x<p.q)->L.length=E.nv->E.fin<=m.length->
  (∀ v k,v<E.nv->k<E.n->m.getD (E.place v+k) 0=Vof L v k/\0<=Vof L v k/\Vof L v k<p.q)->
  (setRows p m ks ins).length=m.length/\(setIns L ks ins).length=E.nv/\(∀ v k,v<E.nv->k<E.n->(setRows p m ks ins).getD (E.place v+k) 0=Vof (setIns L ks ins) v k/\0<=Vof (setIns L ks ins) v k/\Vof (setIns L ks ins) v k<p.q)/\
   (∀ j,j<2\/E.fin<=j->(setRows p m ks ins).getD j 0=m.getD j 0):=by
 intro ks
 induction ks with
 |nil=>intro ins m L _ _ hL _ hm;cases ins<;> exact⟨rfl,hL,hm,fun _ _=>rfl⟩
 |cons d ks ih=>
  intro ins m L hks hins hL hlen hm
  cases ins with
  |nil=>exact⟨rfl,hL,hm,fun _ _=>rfl⟩
  |cons a ins=>
   obtain⟨d0,d1⟩:=hks d List.mem_cons_self
   obtain⟨ha,hx⟩:=hins a List.mem_cons_self
   have hdl:d.toNat<E.nv:=by omega
   have han:a.length=E.n:=by omega
   have hpl:(placeF p d).toNat=E.place d.toNat:=by
    unfold placeF Env.place
    have:d * p.n=((E.n * d.toNat:Nat):Int):=by rw [Int.natCast_mul,Int.mul_comm,show ((d.toNat:Nat):Int)=d from by omega,show ((E.n:Nat):Int)=p.n from by omega]
    omega
   unfold setRows setIns
   by_cases hn0:E.n=0
   ·have ha0:a=[]:=List.eq_nil_of_length_eq_zero (by omega)
    subst ha0
    obtain⟨i1,i2,i3,i4⟩:=ih ins (setRow m (placeF p d).toNat []) (L.set d.toNat []) (fun v hv=>hks v (List.mem_cons_of_mem _ hv)) (fun b hb=>hins b (List.mem_cons_of_mem _ hb)) (by simp [hL]) hlen (fun v k _ hk=>by omega)
    exact⟨i1,i2,i3,i4⟩
   have hpb:=Env.place_lt hdl (show E.n - 1<E.n by omega)
   have hfit:E.place d.toNat+a.length<=m.length:=by omega
   have key:∀ v k,v<E.nv->k<E.n->(setRow m (placeF p d).toNat a).getD (E.place v+k) 0=Vof (L.set d.toNat a) v k/\0<=Vof (L.set d.toNat a) v k/\Vof (L.set d.toNat a) v k<p.q:=by
    intro v k hv hk
    rw [hpl,getD_setRow _ _ _ _ hfit,Vof_set _ _ _ _ _ (by omega)]
    by_cases e:v=d.toNat
    ·subst e
     rw [if_pos (by omega),if_pos rfl,show E.place d.toNat+k - E.place d.toNat=k from by omega]
     refine⟨rfl,?_⟩
     have hk2:k<a.length:=by omega
     rw [List.getD_eq_getElem?_getD,List.getElem?_eq_getElem hk2]
     exact hx _ (List.getElem_mem hk2)
    ·rw [if_neg e,if_neg]
     ·exact hm v k hv hk
     ·intro hh
      obtain⟨h1,h2⟩:=hh
      have:=Env.place_inj (E:=E) (v:=v) (k:=k) (v':=d.toNat) (k':=E.place v+k - E.place d.toNat) hk (by omega) (by omega)
      exact e this.1
   obtain⟨i1,i2,i3,i4⟩:=ih ins (setRow m (placeF p d).toNat a) (L.set d.toNat a) (fun v hv=>hks v (List.mem_cons_of_mem _ hv)) (fun b hb=>hins b (List.mem_cons_of_mem _ hb)) (by simp [hL]) (by rw [setRow_length];exact hlen) key
   refine⟨by rw [i1,setRow_length],i2,i3,fun j hj=>?_⟩
   rw [i4 j hj,hpl,getD_setRow _ _ _ _ hfit,if_neg]
   have:2<=E.place d.toNat:=by unfold Env.place;omega
   omega
theorem Vof_zero (nv n v k:Nat):Vof (List.replicate nv (List.replicate n 0)) v k=0:=by
 unfold Vof
 simp only [List.getD_eq_getElem?_getD,List.getElem?_replicate]
 split
 ·simp [List.getElem?_replicate];split<;> rfl
 ·simp
theorem endF_eq {p:Prog}{bits:Nat}(h:Fine p):endF p=(envOf p bits).fin:=by
 unfold endF Env.fin envOf
 have:=h.n
 have e:(p.vars.length:Int) * p.n=((p.n.toNat * p.vars.length:Nat):Int):=by rw [Int.natCast_mul,Int.mul_comm,show ((p.n.toNat:Nat):Int)=p.n from by omega]
 simp only
 omega
theorem mem_ok {p:Prog}{ins:List (List Int)}{tape:List Int}(h:Fine p)(hi:InOk p ins tape)(ht:∀ x∈tape,0<=x/\x<4294967296)(bits:Nat){mem:Int}(hmem:endF p+4096<=mem):
  (memF p mem ins tape).length=mem.toNat/\MemOk (envOf p bits) tape (Vof (V0 p ins)) 0 (fun j=>(memF p mem ins tape).getD j 0)/\(V0 p ins).length=p.vars.length:=by
 have hq:=h.q;have hn:=h.n
 have he:=endF_eq (bits:=bits) h
 generalize hE:envOf p bits=E at *
 have e1:E.n=p.n.toNat:=by rw [<-hE];rfl
 have e2:E.nv=p.vars.length:=by rw [<-hE];rfl
 have e3:E.q=p.q.toNat:=by rw [<-hE];rfl
 have t1:=hi.tape
 have hf2:2<=E.fin:=by unfold Env.fin;omega
 have hm0:((List.replicate mem.toNat (0:Int)).set 0 tape.length).length=mem.toNat:=by simp
 obtain⟨r1,r2,r3,r4⟩:=rows_ok (p:=p) (E:=E) e1 (by omega) e2 (kindsOf p.vars 1) ins ((List.replicate mem.toNat (0:Int)).set 0 tape.length) (List.replicate p.vars.length (List.replicate p.n.toNat 0))
  (fun v hv=>kindsOf_range hv) hi.vec (by simp [e2]) (by simp;omega) (by
   intro v k hv hk
   rw [Vof_zero,getD_set _ _ _ _ (by simp;omega)]
   have:2<=E.place v:=by unfold Env.place;omega
   rw [if_neg (by omega)]
   refine⟨?_,by omega,by omega⟩
   simp only [List.getD_eq_getElem?_getD,List.getElem?_replicate]
   split<;> rfl)
 unfold memF
 have hfit:(endF p).toNat+tape.length<=(setRows p ((List.replicate mem.toNat (0:Int)).set 0 tape.length) (kindsOf p.vars 1) ins).length:=by rw [r1,hm0];omega
 have hend:(endF p).toNat=E.fin:=by omega
 refine⟨by rw [setRow_length,r1,hm0],?_,by rw [<-e2];exact r2⟩
 rw [hend] at hfit ⊢
 refine⟨t1,ht,?_,?_,fun v k hv hk=>?_,fun j hj=>?_,fun v k hv hk=>?_⟩
 ·skip
  rw [getD_setRow _ _ _ _ hfit,if_neg (by omega),r4 0 (.inl (by omega)),getD_set _ _ _ _ (by simp;omega)];simp
 ·skip
  rw [getD_setRow _ _ _ _ hfit,if_neg (by omega),r4 1 (.inl (by omega)),getD_set _ _ _ _ (by simp;omega)]
  simp only [List.getD_eq_getElem?_getD,List.getElem?_replicate]
  simp;split<;> rfl
 ·skip
  have:=Env.place_lt hv hk
  rw [getD_setRow _ _ _ _ hfit,if_neg (by omega)]
  exact (r3 v k hv hk).1
 ·skip
  rw [getD_setRow _ _ _ _ hfit,if_pos (by omega),show E.fin+j - E.fin=j from by omega]
 ·have:=(r3 v k hv hk).2
  have e5:(E.q:Int)=p.q:=by omega
  rw [e5]
  exact this
end Go.Proofs.YtkplfaionpplaaaGreatDoor.Al
