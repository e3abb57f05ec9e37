/- Part 33: P39, B86, B68. -/
import Derived.Test.YtkplfaionpplaaaGreatDoorK32
import Derived.Deep.Slices
import Derived.ChangeArms
import Derived.WideShapes
set_option maxRecDepth 100000
set_option maxHeartbeats 6400000
set_option linter.unusedVariables false
set_option linter.unusedSimpArgs false
namespace Go.Proofs.YtkplfaionpplaaaGreatDoor
open Go.RowKit Go.Proofs.YtkplfaionpplaaaGreatDoorW.PrintLast Go.Proofs.YtkplfaionpplaaaGreatDoorW.PrintWords
end Go.Proofs.YtkplfaionpplaaaGreatDoor
namespace Go.Proofs.YtkplfaionpplaaaGreatDoor
open Go.RowKit Go.ChangeShapes Go.WideShapes Go.Proofs.YtkplfaionpplaaaGreatDoorW.PrintWords
theorem list_of {α:Type}{Q:Nat->α->Prop}:∀ (n:Nat),(∀ j,j<n->∃ p,Q j p)->∃ ys:List α,ys.length=n/\∀ j p,ys[j]?=some p->Q j p
 |0,_=>⟨[],rfl,fun j p h=>by simp at h⟩
 |n+1,h=>by
  obtain⟨ys,hl,hy⟩:=list_of n fun j hj=>h j (by omega)
  obtain⟨p,hp⟩:=h n (by omega)
  refine⟨ys++[p],by simp [hl],fun j q hq=>?_⟩
  by_cases hj:j<n
  ·rw [List.getElem?_append_left (by omega)] at hq;exact hy j q hq
  ·rw [List.getElem?_append_right (by omega)] at hq
   have h1:=(List.getElem?_eq_some_iff.1 hq).1
   simp at h1
   have h2:j=n:=by omega
   subst h2
   rw [hl] at hq
   simp at hq
   rw [<-hq];exact hp
section
variable {H:Type} {enc:TypeId×Value->H} {w:World}
theorem C_of {α:Type}{d:Kd α}{t e:TypeId}{fuel:Nat}{cs:List Value}{x:DataW H×List MemPlace}(ht:Tryz.prog.underlying t=some (.slice e))(hs:Tryz.prog.cellsOf e=d.sz)
  (ho:∀ (n:Nat) (cs:List Value) (x:DataW H×List MemPlace),n<fuel->DataW.trod enc Tryz.prog w 0 (fun _=>true) true n e cs=some x->∃ y,d.K w y cs)
  (h:DataW.trod enc Tryz.prog w 0 (fun _=>true) true fuel t cs=some x):∃ A c,∃ ys:List α,cs=[.slice A ys.length c]/\ys.length<=c/\d.C w A ys.length ys:=by
 rcases DataW.trod_slice ht h with⟨rfl,_⟩|⟨a,len,cap,elems,rest,n,hn,rfl,_,hb,hl,hm,hlen,hel,_,_⟩
 ·exact⟨none,0,[],rfl,Nat.le_refl _,Kd.C_nil _ _⟩
 ·have hq:∀ j,j<len->∃ p,(∃ c:List Value,c.length=d.sz/\d.K w p c/\∀ i u,c[i]?=some u->w.cell? (a.add (j * d.sz+i))=some u):=fun j hj=>by
   have h1:=hel j hj
   rw [List.getElem?_eq_getElem (by omega)] at h1
   obtain⟨cs',h2,h3⟩:=Option.bind_eq_some_iff.1 h1
   obtain⟨_,h4,h5⟩:=World.cells?_some h2
   obtain⟨y,hy⟩:=ho n cs' _ (by omega) h3
   refine⟨y,cs',by rw [h4,hs],hy,fun i u hu=>?_⟩
   have hi:i<Tryz.prog.cellsOf e:=by have:=(List.getElem?_eq_some_iff.1 hu).1;omega
   have:=h5 i hi
   rw [hs,Go.Deep.add_add] at this
   rw [this,hu]
  obtain⟨ys,hyl,hys⟩:=list_of len hq
  subst hyl
  have hmx:maxLen=9223372036854775807:=by decide
  exact⟨some a,cap,ys,rfl,hl,rfl,by omega,fun _=>⟨a,rfl,hys⟩⟩
theorem int_of {fuel:Nat}{cs:List Value}{x:DataW H×List MemPlace}(h:DataW.trod enc Tryz.prog w 0 (fun _=>true) true fuel 3 cs=some x):∃ y,(Kd.int .i64).K w y cs:=by
 obtain⟨n,rfl,_⟩:=DataW.trod_int Tryz.underlying3 h
 exact⟨n,rfl⟩
theorem ints_of {fuel:Nat}{cs:List Value}{x:DataW H×List MemPlace}(h:DataW.trod enc Tryz.prog w 0 (fun _=>true) true fuel 86 cs=some x):∃ y,(Kd.slice 3 (Kd.int .i64)).K w y cs:=by
 obtain⟨A,c,ys,rfl,hl,hC⟩:=C_of (d:=Kd.int .i64) Tryz.underlying86 (by kernel_rfl) (fun n cs x _ h=>int_of h) h
 exact⟨ys,A,c,rfl,hl,hC⟩
theorem field_of {fs:Array Field}{n:Nat}{cs:List Value}{xs:List (DataW H×List MemPlace)}(hf:∀ (i:Nat) (f:Field),fs[i]?=some f->DataW.trod enc Tryz.prog w 0 (fun _=>true) true n f.type ((cs.drop f.offset).take (Tryz.prog.cellsOf f.type))=xs[i]?)(hx:xs.length=fs.size)(i:Nat){f:Field}(h:fs[i]?=some f):
  ∃ x,DataW.trod enc Tryz.prog w 0 (fun _=>true) true n f.type ((cs.drop f.offset).take (Tryz.prog.cellsOf f.type))=some x:=by
 have hi:i<xs.length:=by have:=(Array.getElem?_eq_some_iff.1 h).1;omega
 exact⟨_,(hf i f h).trans (List.getElem?_eq_getElem hi)⟩
theorem var_of {fuel:Nat}{cs:List Value}{x:DataW H×List MemPlace}(h:DataW.trod enc Tryz.prog w 0 (fun _=>true) true fuel 81 cs=some x):∃ y,kVar.K w y cs:=by
 obtain⟨xs,n,rfl,_,hl,hx,hf⟩:=DataW.trod_struct Tryz.underlying81 h
 rw [show Tryz.prog.cellsOf 81=2 by kernel_rfl] at hl
 match cs,hl with
 |[v0,v1],_=>
 have e3:Tryz.prog.cellsOf 3=1:=by kernel_rfl
 have e4:Tryz.prog.cellsOf 4=1:=by kernel_rfl
 obtain⟨x0,f0⟩:=field_of hf hx 0 rfl
 obtain⟨x1,f1⟩:=field_of hf hx 1 rfl
 obtain⟨k,k0,_⟩:=DataW.trod_int Tryz.underlying3 f0
 obtain⟨b,k1,_⟩:=DataW.trod_bool Tryz.underlying4 f1
 replace k0:List.take (Tryz.prog.cellsOf 3) [v0,v1]=[.int .i64 k]:=k0
 replace k1:List.take (Tryz.prog.cellsOf 4) [v1]=[.bool b]:=k1
 rw [e3] at k0
 rw [e4] at k1
 cases k0
 cases k1
 exact⟨⟨k,b⟩,kVar_mk w ⟨k,b⟩⟩
theorem stmt_of:∀ (N fuel:Nat) (cs:List Value) (x:DataW H×List MemPlace),fuel<=N->DataW.trod enc Tryz.prog w 0 (fun _=>true) true fuel 66 cs=some x->∃ y,kStmt.K w y cs
 |0,fuel,cs,x,hN,h=>by
  obtain⟨xs,n,hn,_⟩:=DataW.trod_struct Tryz.underlying66 h
  omega
 |N+1,fuel,cs,x,hN,h=>by
  obtain⟨xs,n,hn,_,hl,hx,hf⟩:=DataW.trod_struct Tryz.underlying66 h
  rw [show Tryz.prog.cellsOf 66=8 by kernel_rfl] at hl
  match cs,hl with
  |[v0,v1,v2,v3,v4,v5,v6,v7],_=>
  have e3:Tryz.prog.cellsOf 3=1:=by kernel_rfl
  have e5:Tryz.prog.cellsOf 25=1:=by kernel_rfl
  obtain⟨x0,f0⟩:=field_of hf hx 0 rfl
  obtain⟨x1,f1⟩:=field_of hf hx 1 rfl
  obtain⟨x2,f2⟩:=field_of hf hx 2 rfl
  obtain⟨x3,f3⟩:=field_of hf hx 3 rfl
  obtain⟨x4,f4⟩:=field_of hf hx 4 rfl
  obtain⟨x5,f5⟩:=field_of hf hx 5 rfl
  obtain⟨x6,f6⟩:=field_of hf hx 6 rfl
  obtain⟨x7,f7⟩:=field_of hf hx 7 rfl
  obtain⟨a0,k0,_⟩:=DataW.trod_int Tryz.underlying3 f0
  obtain⟨a1,k1,_⟩:=DataW.trod_int Tryz.underlying3 f1
  obtain⟨a2,k2,_⟩:=DataW.trod_int Tryz.underlying3 f2
  obtain⟨a3,k3,_⟩:=DataW.trod_int Tryz.underlying3 f3
  obtain⟨a4,k4,_⟩:=DataW.trod_int Tryz.underlying3 f4
  obtain⟨a5,k5,_⟩:=DataW.trod_int (k:= .i64) (by kernel_rfl) f5
  obtain⟨A6,c6,l6,k6,g6,h6⟩:=C_of (d:=kStmt) Tryz.underlying25 (by kernel_rfl) (fun m cs' x' hm h'=>stmt_of N m cs' x' (by omega) h') f6
  obtain⟨A7,c7,l7,k7,g7,h7⟩:=C_of (d:=kStmt) Tryz.underlying25 (by kernel_rfl) (fun m cs' x' hm h'=>stmt_of N m cs' x' (by omega) h') f7
  replace k0:List.take (Tryz.prog.cellsOf 3) [v0,v1,v2,v3,v4,v5,v6,v7]=[.int .i64 a0]:=k0
  replace k1:List.take (Tryz.prog.cellsOf 3) [v1,v2,v3,v4,v5,v6,v7]=[.int .i64 a1]:=k1
  replace k2:List.take (Tryz.prog.cellsOf 3) [v2,v3,v4,v5,v6,v7]=[.int .i64 a2]:=k2
  replace k3:List.take (Tryz.prog.cellsOf 3) [v3,v4,v5,v6,v7]=[.int .i64 a3]:=k3
  replace k4:List.take (Tryz.prog.cellsOf 3) [v4,v5,v6,v7]=[.int .i64 a4]:=k4
  replace k6:List.take (Tryz.prog.cellsOf 25) [v6,v7]=[.slice A6 l6.length c6]:=k6
  replace k7:List.take (Tryz.prog.cellsOf 25) [v7]=[.slice A7 l7.length c7]:=k7
  replace k5:List.take (Tryz.prog.cellsOf 2) [v5,v6,v7]=[.int .i64 a5]:=k5
  rw [e3] at k0 k1 k2 k3 k4
  rw [show Tryz.prog.cellsOf 2=1 by kernel_rfl] at k5
  rw [e5] at k6 k7
  cases k0
  cases k1
  cases k2
  cases k3
  cases k4
  cases k5
  cases k6
  cases k7
  exact⟨⟨a0,a1,a2,a3,a4,a5,l6,l7⟩,kStmt_mk w ⟨a0,a1,a2,a3,a4,a5,l6,l7⟩ g6 h6 g7 h7⟩
theorem prog_of {fuel:Nat}{cs:List Value}{x:DataW H×List MemPlace}(h:DataW.trod enc Tryz.prog w 0 (fun _=>true) true fuel 27 cs=some x):
  ∃ (p:Al.Prog) (Va Ab:Option Addr) (vc cb:Nat),cs=[.int .i64 p.q,.int .i64 p.n,.slice Va p.vars.length vc,.slice Ab p.body.length cb]/\PLies w p Va Ab vc cb:=by
 obtain⟨xs,n,hn,_,hl,hx,hf⟩:=DataW.trod_struct Tryz.underlying27 h
 rw [show Tryz.prog.cellsOf 27=4 by kernel_rfl] at hl
 match cs,hl with
 |[v0,v1,v2,v3],_=>
 obtain⟨x0,f0⟩:=field_of hf hx 0 rfl
 obtain⟨x1,f1⟩:=field_of hf hx 1 rfl
 obtain⟨x2,f2⟩:=field_of hf hx 2 rfl
 obtain⟨ys,m,hm,_,hl2,hx2,hf2⟩:=DataW.trod_struct Tryz.underlying23 f0
 obtain⟨y0,g0⟩:=field_of hf2 hx2 0 rfl
 obtain⟨y1,g1⟩:=field_of hf2 hx2 1 rfl
 obtain⟨q,k0,_⟩:=DataW.trod_int (k:= .i64) (by kernel_rfl) g0
 obtain⟨nn,k1,_⟩:=DataW.trod_int (k:= .i64) (by kernel_rfl) g1
 obtain⟨A2,c2,l2,k2,i2,h2⟩:=C_of (d:=kVar) Tryz.underlying24 (by kernel_rfl) (fun m cs' x' _ h'=>var_of h') f1
 obtain⟨A3,c3,l3,k3,i3,h3⟩:=C_of (d:=kStmt) Tryz.underlying25 (by kernel_rfl) (fun m cs' x' _ h'=>stmt_of m m cs' x' (Nat.le_refl _) h') f2
 have e3:Tryz.prog.cellsOf 3=1:=by kernel_rfl
 have e23:Tryz.prog.cellsOf 23=2:=by kernel_rfl
 replace k0:List.take (Tryz.prog.cellsOf 3) (List.take (Tryz.prog.cellsOf 23) [v0,v1,v2,v3])=[.int .i64 q]:=k0
 replace k1:List.take (Tryz.prog.cellsOf 3) (List.drop 1 (List.take (Tryz.prog.cellsOf 23) [v0,v1,v2,v3]))=[.int .i64 nn]:=k1
 replace k2:List.take (Tryz.prog.cellsOf 24) [v2,v3]=[.slice A2 l2.length c2]:=k2
 replace k3:List.take (Tryz.prog.cellsOf 25) [v3]=[.slice A3 l3.length c3]:=k3
 rw [e3,e23] at k0 k1
 rw [show Tryz.prog.cellsOf 24=1 by kernel_rfl] at k2
 rw [show Tryz.prog.cellsOf 25=1 by kernel_rfl] at k3
 cases k0
 cases k1
 cases k2
 cases k3
 exact⟨⟨q,nn,l2,l3⟩,A2,A3,c2,c3,rfl,⟨h2,h3,i3⟩⟩
theorem vecs_of {fuel:Nat}{cs:List Value}{x:DataW H×List MemPlace}(h:DataW.trod enc Tryz.prog w 0 (fun _=>true) true fuel 28 cs=some x):
  ∃ A c,∃ ys:List (List Int),cs=[.slice A ys.length c]/\ys.length<=c/\Kd.C (Kd.slice 3 (Kd.int .i64)) w A ys.length ys:=
 C_of (d:=Kd.slice 3 (Kd.int .i64)) Tryz.underlying28 (by kernel_rfl) (fun m cs' x' _ h'=>ints_of h') h
end
end Go.Proofs.YtkplfaionpplaaaGreatDoor
