/- What is proved: the law LowerMeans (the words of a program that is taken end as it does, with what it gives out and as many words of the tape, and nothing lies outside its span) returns true at every input that the given row covers, and leaves its arguments as they read before. Conditions: none beyond the row's own. -/
import Derived.Test.YtkplfaionpplaaaGreatDoorK39
set_option maxRecDepth 100000
set_option maxHeartbeats 6400000
set_option linter.unusedVariables false
set_option linter.unusedSimpArgs false
namespace Go.Proofs.YtkplfaionpplaaaGreatDoor
open Go.ChangeShapes Go.WideShapes Go.RowKit Go.Proofs.YtkplfaionpplaaaGreatDoorW.PrintWords
section
variable {H:Type} {enc:TypeId×Value->H} {w:World}
theorem u32s_of {fuel:Nat}{cs:List Value}{x:DataW H×List MemPlace}(h:DataW.trod enc Tryz.prog w 0 (fun _=>true) true fuel 29 cs=some x):
  ∃ A c,∃ ys:List Int,cs=[.slice A ys.length c]/\ys.length<=c/\(Kd.int .u32).C w A ys.length ys/\∀ t∈ys,0<=t/\t<4294967296:=by
 rcases DataW.trod_slice Tryz.underlying29 h with⟨rfl,_⟩|⟨a,len,cap,elems,rest,n,hn,rfl,_,hb,hl,hm,hlen,hel,_,_⟩
 ·exact⟨none,0,[],rfl,Nat.le_refl _,Kd.C_nil _ _,fun t ht=>by cases ht⟩
 ·have hs:Tryz.prog.cellsOf 100=1:=by kernel_rfl
  have hq:∀ j,j<len->∃ p:Int,(∃ c:List Value,c.length=(Kd.int .u32).sz/\(Kd.int .u32).K w p c/\∀ i u,c[i]?=some u->w.cell? (a.add (j * (Kd.int .u32).sz+i))=some u)/\(0<=p/\p<4294967296):=fun j hj=>by
   have h1:=hel j hj
   rw [List.getElem?_eq_getElem (by omega)] at h1
   obtain⟨cs',h2,h3⟩:=Option.bind_eq_some_iff.1 h1
   obtain⟨_,h4,h5⟩:=World.cells?_some h2
   obtain⟨y,rfl,_,hw⟩:=DataW.trod_int (k:= .u32) (by kernel_rfl) h3
   have h6:IntKind.u32.min<=y/\y<=IntKind.u32.max:=by simpa [Lit.wf] using hw
   have e1:IntKind.u32.min=0:=by decide
   have e2:IntKind.u32.max=4294967295:=by decide
   rw [e1,e2] at h6
   refine⟨y,⟨_,by rw [h4,hs];rfl,rfl,fun i u hu=>?_⟩,by omega⟩
   have hi:i<Tryz.prog.cellsOf 100:=by have:=(List.getElem?_eq_some_iff.1 hu).1;omega
   have:=h5 i hi
   rw [hs,Go.Deep.add_add] at this
   show w.cell? (a.add (j * 1+i))=some u
   rw [this,hu]
  obtain⟨ys,hyl,hys⟩:=list_of len hq
  subst hyl
  have hmx:maxLen=9223372036854775807:=by decide
  refine⟨some a,cap,ys,rfl,hl,⟨rfl,by omega,fun _=>⟨a,rfl,fun j p hp=>(hys j p hp).1⟩⟩,fun t ht=>?_⟩
  obtain⟨i,hi⟩:=List.getElem?_of_mem ht
  exact (hys i t hi).2
variable {P:Program} {base:Nat} {spare:Nat->Bool} {held:Bool}
end
def laidM:List (String×DataW Unit):=Rows.lowerMeansRow.laid
theorem door_metM (os:Os)(args:Array Value):laidMetH Tryz.prog laidM ((World.doorLaid Tryz.prog 400 os).forCall (fun _ _=>0) ⟨#[],args,[]⟩).memory:=
 laidMetH_of_parts3 (fuel:=8) (laidMet_of_run' 8 (by kernel_rfl) (by kernel_rfl)) (by kernel_rfl) (by kernel_rfl)
theorem means_lifted (os:Os)(started:os.Started)(H:Type)(enc:TypeId×Value->H):
  ReturnsInHanded {} Tryz.checked os 3 .any (fun w args=>(Rows.lowerMeansSpec.pre enc Tryz.prog Tryz.f3 [] false w args/\laidMetH Tryz.prog laidM w)/\sizedMet enc Tryz.prog Tryz.f3 (OpenSpec.ofChange Rows.lowerMeansSpec) false w args)
   (Rows.lowerMeansSpec.post enc Tryz.prog Tryz.f3 false true false false):=by
 refine returnsInHanded_of_change_and (C:=Tryz.checked) (X:=fun w _=>laidMetH Tryz.prog laidM w) (fun _ _ _ hh h=>h.of_heap hh) ownK started (by kernel_rfl) Tryz.func3
  (ChangeSpec.witness_shaped (enc:=enc) (C:=Tryz.checked) (os:=os) (X:=fun w _=>laidMetH Tryz.prog laidM w) false (World.doorLaid Tryz.prog 400 os) #[.agg #[.int .i64 0,.int .i64 0,.slice none 0 0,.slice none 0 0],.slice none 0 0,.slice none 0 0] 8 rfl (World.shaped_of_RefB (by kernel_rfl) (by kernel_rfl)) (by kernel_rfl) (by kernel_rfl) (by kernel_rfl) (door_metM os _)) ?_
 intro W base args ds gs before hval0 hW _ _ hL _
 have hval:∀ (j:Nat) t v,Tryz.f3.params[j]?=some t->args[j]?=some v->Value.okWide Tryz.prog W .any base t v:=hval0
 have hW':=hW
 obtain⟨p,q,hA0,hV,rfl,hfz,hnd⟩:=hW
 have hA:DataW.TrodAll enc Tryz.prog W 0 (fun _=>true) true Tryz.f3.params.toList args.toList ds p:=hA0
 rw [Tryz.params3] at hA hval
 obtain⟨v0,v1,v3,d0,d1,d3,p0,p1,p3,rfl,rfl,rfl,h0,h1,h3⟩:=trodAll_three hA
 obtain⟨rfl,rfl⟩:=trodVars_none hV
 clear hA0 hval0
 simp only [List.append_nil] at hW'
 have hlt:∀ x∈p0++p1++p3,x.block<W.heap.size:=fun x hx=>hW'.lt x (by simpa using hx)
 have k0:=h0
 have k1:=h1
 have k3:=h3
 obtain⟨cs0,rfl, -⟩:=okWide_struct Tryz.underlying27 (hval 0 27 v0 rfl rfl)
 obtain⟨a1,n1,c1,rfl⟩:=okWide_slice Tryz.underlying28 (hval 1 28 v1 rfl rfl)
 obtain⟨a3,n3,c3,rfl⟩:=okWide_slice Tryz.underlying29 (hval 2 29 v3 rfl rfl)
 obtain⟨m0,g0⟩:=h0
 obtain⟨m1,g1⟩:=h1
 obtain⟨m3,g3⟩:=h3
 obtain⟨pp,Va,Ab,vc,cb,e0,HP⟩:=prog_of g0
 obtain⟨A1,cc1,insA,e1, -,HA⟩:=vecs_of g1
 obtain⟨A3,cc3,sA,e3, -,HS,hs⟩:=u32s_of g3
 have e0':cs0= #[.int .i64 pp.q,.int .i64 pp.n,.slice Va pp.vars.length vc,.slice Ab pp.body.length cb]:=Array.ext' e0
 subst e0'
 simp only [Value.cells,List.cons.injEq,Value.slice.injEq,and_true] at e1 e3
 obtain⟨rfl,rfl,rfl⟩:=e1
 obtain⟨rfl,rfl,rfl⟩:=e3
 refine (means_any HP HA HS hs).mono fun e W' ⟨he,hb⟩=>?_
 subst he
 refine⟨_,rfl,post_of_below hW' (fun _ _ _=>trodAll_mk1 (shut_bool Tryz.underlying4 true)) (trodAll_mk3
  (Below.trod laidOutK (by kernel_rfl) (of_decide_eq_true (by kernel_rfl)) k0 hb (fun x hx=>hlt x (by simp [hx])))
  (Below.trod laidOutK (by kernel_rfl) (of_decide_eq_true (by kernel_rfl)) k1 hb (fun x hx=>hlt x (by simp [hx])))
  (Below.trod laidOutK (by kernel_rfl) (of_decide_eq_true (by kernel_rfl)) k3 hb (fun x hx=>hlt x (by simp [hx])))) (fun _ _=>rfl) (by simp) hb⟩
theorem means_holds:Rows.LowerMeansSaid:=
 OpenClaim.holds_of_wide 3 Tryz.f3 rfl rfl rfl rfl rfl rfl rfl ⟨rfl,rfl,rfl,rfl,rfl⟩ rfl rfl rfl rfl rfl (by kernel_rfl) Tryz.func3 (by kernel_rfl)
  (of_decide_eq_true (by kernel_rfl)) (by unfold Func.isWrapper;first|(rw [if_pos (by decide+kernel)];kernel_rfl)|(rw [if_neg (by decide+kernel)];exact⟨rfl,rfl⟩))
  (fun os started H enc _=>means_lifted os started H enc)
theorem means_card:Rows.LowerMeansCardSaid:=
 Claim7.holds_tied_plain_at .later [] [.sentinel,.sentinel,.sentinel,.sentinel,.sentinel,.sentinel] true (true,"04421d3ed5badd3d7092817fbbf7224db24f1520aed9700f279a862501af7ddc") true
  means_holds (fun _ h=>by cases h) (by kernel_rfl) (fun _ h=>by cases h) lowerMeans_row_tie rfl ⟨rfl,rfl⟩ (by kernel_rfl) rfl
  (fun f fn hf hfn=>by
   obtain rfl:f=3:=Option.some.inj ((show Tryz.prog.funcNamed "alembic/alembiclaw19.LowerMeans" =some 3 by kernel_rfl).symm.trans hf) |>.symm
   obtain rfl:fn=Tryz.f3:=(Option.some.inj (Tryz.func3.symm.trans hfn)).symm
   exact⟨by kernel_rfl,fun j t ht=>by
    rw [Tryz.params3] at ht
    have h3:t=27\/t=28\/t=29:=by
     rcases j with _|_|_|j
     ·left;simpa using ht.symm
     ·right;left;simpa using ht.symm
     ·right;right;simpa using ht.symm
     ·simp at ht
    rcases h3 with rfl|rfl|rfl
    ·exact (show Tryz.prog.wantsStandIn 27=false by kernel_rfl)
    ·exact (show Tryz.prog.wantsStandIn 28=false by kernel_rfl)
    ·exact (show Tryz.prog.wantsStandIn 29=false by kernel_rfl)⟩)
  (by kernel_rfl)
end Go.Proofs.YtkplfaionpplaaaGreatDoor
