/- What is proved: the law LowerSays (where all lies, the memory that a run begins with, what it gives out, or what is amiss, are what the document says; what is taken is lowered to right code) returns true at every input that the given row covers, and leaves its arguments as they read before. Conditions: none beyond the row's own. -/
import Derived.Test.YtkplfaionpplaaaGreatDoorK34
set_option maxRecDepth 100000
set_option maxHeartbeats 6400000
set_option linter.unusedVariables false
set_option linter.unusedSimpArgs false
namespace Go.Proofs.YtkplfaionpplaaaGreatDoor
open Go.ChangeShapes Go.WideShapes Go.RowKit Go.Proofs.YtkplfaionpplaaaGreatDoorW.PrintWords
section
variable {H:Type} {enc:TypeId×Value->H} {w:World}
theorem u32s_of {fuel:Nat}{cs:List Value}{x:DataW H×List MemPlace}(h:DataW.trod enc Tryz.prog w 0 (fun _=>true) true fuel 29 cs=some x):
  ∃ A c,∃ ys:List Int,cs=[.slice A ys.length c]/\ys.length<=c/\(Kd.int .u32).C w A ys.length ys/\∀ t∈ys,0<=t/\t<4294967296:=by
 rcases DataW.trod_slice Tryz.underlying29 h with⟨rfl,_⟩|⟨a,len,cap,elems,rest,n,hn,rfl,_,hb,hl,hm,hlen,hel,_,_⟩
 ·exact⟨none,0,[],rfl,Nat.le_refl _,Kd.C_nil _ _,fun t ht=>by cases ht⟩
 ·have hs:Tryz.prog.cellsOf 100=1:=by kernel_rfl
  have hq:∀ j,j<len->∃ p:Int,(∃ c:List Value,c.length=(Kd.int .u32).sz/\(Kd.int .u32).K w p c/\∀ i u,c[i]?=some u->w.cell? (a.add (j * (Kd.int .u32).sz+i))=some u)/\(0<=p/\p<4294967296):=fun j hj=>by
   have h1:=hel j hj
   rw [List.getElem?_eq_getElem (by omega)] at h1
   obtain⟨cs',h2,h3⟩:=Option.bind_eq_some_iff.1 h1
   obtain⟨_,h4,h5⟩:=World.cells?_some h2
   obtain⟨y,rfl,_,hw⟩:=DataW.trod_int (k:= .u32) (by kernel_rfl) h3
   have h6:IntKind.u32.min<=y/\y<=IntKind.u32.max:=by simpa [Lit.wf] using hw
   have e1:IntKind.u32.min=0:=by decide
   have e2:IntKind.u32.max=4294967295:=by decide
   rw [e1,e2] at h6
   refine⟨y,⟨_,by rw [h4,hs];rfl,rfl,fun i u hu=>?_⟩,by omega⟩
   have hi:i<Tryz.prog.cellsOf 100:=by have:=(List.getElem?_eq_some_iff.1 hu).1;omega
   have:=h5 i hi
   rw [hs,Go.Deep.add_add] at this
   show w.cell? (a.add (j * 1+i))=some u
   rw [this,hu]
  obtain⟨ys,hyl,hys⟩:=list_of len hq
  subst hyl
  have hmx:maxLen=9223372036854775807:=by decide
  refine⟨some a,cap,ys,rfl,hl,⟨rfl,by omega,fun _=>⟨a,rfl,fun j p hp=>(hys j p hp).1⟩⟩,fun t ht=>?_⟩
  obtain⟨i,hi⟩:=List.getElem?_of_mem ht
  exact (hys i t hi).2
variable {P:Program} {base:Nat} {spare:Nat->Bool} {held:Bool}
theorem trodAll_five {t0 t1 t2 t3 t4:TypeId}{args:Array Value}{ds:List (DataW H)}{ps:List MemPlace}(h:DataW.TrodAll enc P w base spare held [t0,t1,t2,t3,t4] args.toList ds ps):
  ∃ v0 v1 v2 v3 v4 d0 d1 d2 d3 d4 p0 p1 p2 p3 p4,args= #[v0,v1,v2,v3,v4]/\ds=[d0,d1,d2,d3,d4]/\ps=p0++p1++p2++p3++p4/\DataW.Trod enc P w base spare held t0 v0 d0 p0/\DataW.Trod enc P w base spare held t1 v1 d1 p1/\DataW.Trod enc P w base spare held t2 v2 d2 p2/\DataW.Trod enc P w base spare held t3 v3 d3 p3/\DataW.Trod enc P w base spare held t4 v4 d4 p4:=by
 obtain⟨v0,vs0,d0,e0,p0,q0,hargs,rfl,rfl,hd0,hr0⟩:=trodAll_cons h
 obtain⟨v1,vs1,d1,e1,p1,q1,rfl,rfl,rfl,hd1,hr1⟩:=trodAll_cons hr0
 obtain⟨v2,vs2,d2,e2,p2,q2,rfl,rfl,rfl,hd2,hr2⟩:=trodAll_cons hr1
 obtain⟨v3,vs3,d3,e3,p3,q3,rfl,rfl,rfl,hd3,hr3⟩:=trodAll_cons hr2
 obtain⟨v4,vs4,d4,e4,p4,q4,rfl,rfl,rfl,hd4,hr4⟩:=trodAll_cons hr3
 obtain⟨rfl,rfl,rfl⟩:=trodAll_nil hr4
 exact⟨v0,v1,v2,v3,v4,d0,d1,d2,d3,d4,p0,p1,p2,p3,p4,by cases args;simp_all,rfl,by simp,hd0,hd1,hd2,hd3,hd4⟩
theorem trodAll_mk5 {t0 t1 t2 t3 t4:TypeId}{v0 v1 v2 v3 v4:Value}{d0 d1 d2 d3 d4:DataW H}{p0 p1 p2 p3 p4:List MemPlace}(h0:DataW.Trod enc P w base spare held t0 v0 d0 p0)(h1:DataW.Trod enc P w base spare held t1 v1 d1 p1)
 (h2:DataW.Trod enc P w base spare held t2 v2 d2 p2) (h3:DataW.Trod enc P w base spare held t3 v3 d3 p3) (h4:DataW.Trod enc P w base spare held t4 v4 d4 p4):DataW.TrodAll enc P w base spare held [t0,t1,t2,t3,t4] [v0,v1,v2,v3,v4] [d0,d1,d2,d3,d4] (p0++(p1++(p2++(p3++p4)))):=⟨p0,p1++(p2++(p3++p4)),h0,trodAll_mk4 h1 h2 h3 h4,rfl⟩
end
def laidS:List (String×DataW Unit):=Rows.lowerSaysRow.laid
theorem door_metS (os:Os)(args:Array Value):laidMetH Tryz.prog laidS ((World.doorLaid Tryz.prog 400 os).forCall (fun _ _=>0) ⟨#[],args,[]⟩).memory:=
 laidMetH_of_parts3 (fuel:=8) (laidMet_of_run' 8 (by kernel_rfl) (by kernel_rfl)) (by kernel_rfl) (by kernel_rfl)
theorem says_lifted (os:Os)(started:os.Started)(H:Type)(enc:TypeId×Value->H):
  ReturnsInHanded {} Tryz.checked os 6 .any (fun w args=>(Rows.lowerSaysSpec.pre enc Tryz.prog Tryz.f6 [] false w args/\laidMetH Tryz.prog laidS w)/\sizedMet enc Tryz.prog Tryz.f6 (OpenSpec.ofChange Rows.lowerSaysSpec) false w args)
   (Rows.lowerSaysSpec.post enc Tryz.prog Tryz.f6 false true false false):=by
 refine returnsInHanded_of_change_and (C:=Tryz.checked) (X:=fun w _=>laidMetH Tryz.prog laidS w) (fun _ _ _ hh h=>h.of_heap hh) ownK started (by kernel_rfl) Tryz.func6
  (ChangeSpec.witness_shaped (enc:=enc) (C:=Tryz.checked) (os:=os) (X:=fun w _=>laidMetH Tryz.prog laidS w) false (World.doorLaid Tryz.prog 400 os) #[.agg #[.int .i64 0,.int .i64 0,.slice none 0 0,.slice none 0 0],.slice none 0 0,.slice none 0 0,.int .i64 0,.int .i64 0] 8 rfl (World.shaped_of_RefB (by kernel_rfl) (by kernel_rfl)) (by kernel_rfl) (by kernel_rfl) (by kernel_rfl) (door_metS os _)) ?_
 intro W base args ds gs before hval0 hW _ _ hL _
 have hval:∀ (j:Nat) t v,Tryz.f6.params[j]?=some t->args[j]?=some v->Value.okWide Tryz.prog W .any base t v:=hval0
 have hW':=hW
 obtain⟨p,q,hA0,hV,rfl,hfz,hnd⟩:=hW
 have hA:DataW.TrodAll enc Tryz.prog W 0 (fun _=>true) true Tryz.f6.params.toList args.toList ds p:=hA0
 rw [Tryz.params6] at hA hval
 obtain⟨v0,v1,v3,v4,v5,d0,d1,d3,d4,d5,p0,p1,p3,p4,p5,rfl,rfl,rfl,h0,h1,h3,h4,h5⟩:=trodAll_five hA
 obtain⟨rfl,rfl⟩:=trodVars_none hV
 clear hA0 hval0
 simp only [List.append_nil] at hW'
 have hlt:∀ x∈p0++p1++p3++p4++p5,x.block<W.heap.size:=fun x hx=>hW'.lt x (by simpa using hx)
 have k0:=h0
 have k1:=h1
 have k3:=h3
 have k4:=h4
 have k5:=h5
 obtain⟨cs0,rfl, -⟩:=okWide_struct Tryz.underlying27 (hval 0 27 v0 rfl rfl)
 obtain⟨a1,n1,c1,rfl⟩:=okWide_slice Tryz.underlying28 (hval 1 28 v1 rfl rfl)
 obtain⟨a3,n3,c3,rfl⟩:=okWide_slice Tryz.underlying29 (hval 2 29 v3 rfl rfl)
 obtain⟨mem,rfl⟩:=okWide_int Tryz.underlying3 (hval 3 3 v4 rfl rfl)
 obtain⟨vv,rfl⟩:=okWide_int Tryz.underlying3 (hval 4 3 v5 rfl rfl)
 obtain⟨A,S⟩:=sent_of hL
 obtain⟨m0,g0⟩:=h0
 obtain⟨m1,g1⟩:=h1
 obtain⟨m3,g3⟩:=h3
 obtain⟨pp,Va,Ab,vc,cb,e0,HP⟩:=prog_of g0
 obtain⟨A1,cc1,insA,e1, -,HA⟩:=vecs_of g1
 obtain⟨A3,cc3,sA,e3, -,HS,hs⟩:=u32s_of g3
 have e0':cs0= #[.int .i64 pp.q,.int .i64 pp.n,.slice Va pp.vars.length vc,.slice Ab pp.body.length cb]:=Array.ext' e0
 subst e0'
 simp only [Value.cells,List.cons.injEq,Value.slice.injEq,and_true] at e1 e3
 obtain⟨rfl,rfl,rfl⟩:=e1
 obtain⟨rfl,rfl,rfl⟩:=e3
 refine (says_any S mem vv HP HA HS hs).mono fun e W' ⟨he,hb⟩=>?_
 subst he
 refine⟨_,rfl,post_of_below hW' (fun _ _ _=>trodAll_mk1 (shut_bool Tryz.underlying4 true)) (trodAll_mk5
  (Below.trod laidOutK (by kernel_rfl) (of_decide_eq_true (by kernel_rfl)) k0 hb (fun x hx=>hlt x (by simp [hx])))
  (Below.trod laidOutK (by kernel_rfl) (of_decide_eq_true (by kernel_rfl)) k1 hb (fun x hx=>hlt x (by simp [hx])))
  (Below.trod laidOutK (by kernel_rfl) (of_decide_eq_true (by kernel_rfl)) k3 hb (fun x hx=>hlt x (by simp [hx])))
  (Below.trod laidOutK (by kernel_rfl) (of_decide_eq_true (by kernel_rfl)) k4 hb (fun x hx=>hlt x (by simp [hx])))
  (Below.trod laidOutK (by kernel_rfl) (of_decide_eq_true (by kernel_rfl)) k5 hb (fun x hx=>hlt x (by simp [hx])))) (fun _ _=>rfl) (by simp) hb⟩
theorem says_holds:Rows.LowerSaysSaid:=
 OpenClaim.holds_of_wide 6 Tryz.f6 rfl rfl rfl rfl rfl rfl rfl ⟨rfl,rfl,rfl,rfl,rfl⟩ rfl rfl rfl rfl rfl (by kernel_rfl) Tryz.func6 (by kernel_rfl)
  (of_decide_eq_true (by kernel_rfl)) (by unfold Func.isWrapper;first|(rw [if_pos (by decide+kernel)];kernel_rfl)|(rw [if_neg (by decide+kernel)];exact⟨rfl,rfl⟩))
  (fun os started H enc _=>says_lifted os started H enc)
theorem says_card:Rows.LowerSaysCardSaid:=
 Claim7.holds_tied_plain_at .later [] [.sentinel,.sentinel,.sentinel,.sentinel,.sentinel,.sentinel,.sentinel,.sentinel,.sentinel,.sentinel,.sentinel,.sentinel,.sentinel,.sentinel] true (true,"04421d3ed5badd3d7092817fbbf7224db24f1520aed9700f279a862501af7ddc") true
  says_holds (fun _ h=>by cases h) (by kernel_rfl) (fun _ h=>by cases h) lowerSays_row_tie rfl ⟨rfl,rfl⟩ (by kernel_rfl) rfl
  (fun f fn hf hfn=>by
   obtain rfl:f=6:=Option.some.inj ((show Tryz.prog.funcNamed "alembic/alembiclaw19.LowerSays" =some 6 by kernel_rfl).symm.trans hf) |>.symm
   obtain rfl:fn=Tryz.f6:=(Option.some.inj (Tryz.func6.symm.trans hfn)).symm
   exact⟨by kernel_rfl,fun j t ht=>by
    rw [Tryz.params6] at ht
    have h3:t=27\/t=28\/t=29\/t=3:=by
     rcases j with _|_|_|_|_|j
     ·left;simpa using ht.symm
     ·right;left;simpa using ht.symm
     ·right;right;left;simpa using ht.symm
     ·right;right;right;simpa using ht.symm
     ·right;right;right;simpa using ht.symm
     ·simp at ht
    rcases h3 with rfl|rfl|rfl|rfl
    ·exact (show Tryz.prog.wantsStandIn 27=false by kernel_rfl)
    ·exact (show Tryz.prog.wantsStandIn 28=false by kernel_rfl)
    ·exact (show Tryz.prog.wantsStandIn 29=false by kernel_rfl)
    ·exact (show Tryz.prog.wantsStandIn 3=false by kernel_rfl)⟩)
  (by kernel_rfl)
end Go.Proofs.YtkplfaionpplaaaGreatDoor
