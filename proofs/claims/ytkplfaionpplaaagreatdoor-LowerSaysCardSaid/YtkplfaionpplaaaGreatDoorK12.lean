/- Part 12: B26. -/
import Derived.Test.YtkplfaionpplaaaGreatDoorK11
set_option maxRecDepth 100000
set_option maxHeartbeats 6400000
set_option linter.unusedVariables false
set_option linter.unusedSimpArgs false
namespace Go.Proofs.YtkplfaionpplaaaGreatDoor
open Go.RowKit Go.Proofs.YtkplfaionpplaaaGreatDoorW.PrintLast Go.Proofs.YtkplfaionpplaaaGreatDoorW.PrintWords
structure Aside (w:World)(f:Nat->Prop)(k:Nat)(x:Obj):Prop where
 h:w.heap[k]?=some x
 n:¬f k
theorem Aside.step {w w':World}{f f':Nat->Prop}{k:Nat}{x:Obj}(h:Aside w f k x)(c:Chg w w' f f'):Aside w' f' k x:=⟨(c.blk h.h h.n).1,(c.blk h.h h.n).2⟩
theorem own_base {w:World}{base b2:Nat}{e:TypeId}{size:Nat}{v:Value}{n:Nat}{xs:List Value}(h:w.ownsRow base e size v n xs)(hb:b2<=base):w.ownsRow b2 e size v n xs:=by
 refine⟨h.1,?_⟩
 rcases h.2 with h0|⟨g,cap,cur,rfl,h1,h2⟩
 ·exact .inl h0
 ·exact .inr ⟨g,cap,cur,rfl,Nat.le_trans hb h1,h2⟩
def progO (C:MkC)(Ab:Option Addr)(nb capb:Nat):Obj:= .cells #[.int .i64 C.q,.int .i64 C.n,.slice C.va C.nv C.vcap,.slice Ab nb capb] 27 (0,0)
def resO:Obj:= .cells #[.slice none 0 0,.int .i64 0,.int .i64 0] 41 (0,0)
theorem begin_outs {w:World}{base bp:Nat}{foot:Nat->Prop}{C:MkC}{b:Mk}(hM:Maker w base foot bp C b):
  ∃ vo vs,w.cell? ⟨bp,6,none⟩=some vo/\w.cell? ⟨bp,7,none⟩=some vs/\w.cell? ⟨bp,8,none⟩=some (.int .i64 C.scratch)/\w.ownsRow base 97 6 vo b.out.length (instsV b.out)/\w.ownsRow base 108 2 vs b.spans.length (spansV b.spans)/\(∀ k,inRow vs k->foot k):=by
 obtain⟨vo,vs,vt,vg,hblk,ho,hs,ht,hg,hne,hbb,hl,hfb,hfr,hf,hvt,hvg⟩:=hM
 exact⟨vo,vs,by rw [cell_blk hblk];rfl,by rw [cell_blk hblk];rfl,by rw [cell_blk hblk];rfl,ho,hs,fun k hk=>hfr k (.inr (.inl hk))⟩
theorem lower_any {C:MkC}{E:Al.Env}(R:Ready C E){Ab:Option Addr}{capb:Nat}{body:List Al.Stmt}(hsb:C.sb= .slice Ab body.length capb)(hcap:body.length<=capb){w:World}(hK:kStmt.C w Ab body.length body)(hg:Al.GoodL E 0 body)
  (hlen:Al.bodyP body+(Al.genL E 0 0 0 (Al.bodyP body) body).length<970000)
  (hcheck:∀ w1,Below w.heap.size w w1->Calls Tryz.prog 36 #[.agg #[.int .i64 C.q,.int .i64 C.n,.slice C.va C.nv C.vcap,.slice Ab body.length capb]] w1 fun e w2=>e= .returned Value.nilIface/\Below w1.heap.size w1 w2):
  Calls Tryz.prog 10 #[.agg #[.int .i64 C.q,.int .i64 C.n,.slice C.va C.nv C.vcap,.slice Ab body.length capb]] w fun e w'=>∃ vi vs,e= .returned (.tuple #[.agg #[vi,.int .i64 24,.int .i64 E.mem],vs,Value.nilIface])/\
   (∃ b:Mk,b.out=Al.insts (Al.progC E body (Al.outT (Al.bodyP body+(Al.genL E 0 0 0 (Al.bodyP body) body).length)) (Al.outG (Al.bodyP body+(Al.genL E 0 0 0 (Al.bodyP body) body).length) body))/\b.spans=Al.spansOf (Al.progC E body 0 0)/\
    w'.ownsRow w.heap.size 97 6 vi b.out.length (instsV b.out)/\w'.ownsRow w.heap.size 108 2 vs b.spans.length (spansV b.spans))/\Below w.heap.size w w':=by
 have hE:=R.ce
 have hC:=hE.ok
 have n0:=hC.n0
 have n1:=hC.n1
 have v1:=hC.v1
 have nn:0<=C.n * C.nv:=Int.mul_nonneg (by omega) (by omega)
 have nn2:C.n * C.nv<=256 * 12:=Int.mul_le_mul (by omega) (by omega) (by omega) (by omega)
 have hsc:C.scratch=2+C.n * C.nv+4096:=by rw [hE.sc];unfold Al.Env.scratch Al.Env.fin;rw [hE.n,hE.nv];simp
 have hmem:C.scratch+C.n=E.mem:=by rw [hE.sc,hE.n];unfold Al.Env.mem;simp
 have hlp:=genL_pos (E:=E) (deep:=0) body (Al.bodyP body) hg
 obtain⟨nb,hnb⟩:∃ nb,nb=body.length:=⟨_,rfl⟩
 rw [<-hnb] at hsb hcap hcheck hK ⊢
 have hnbl:nb<1000000:=by omega
 replace hnb:=Lib.hid hnb
 obtain⟨W,hW⟩:∃ W,W=(w.alloc (progO C Ab nb capb)).alloc resO:=⟨_,rfl⟩
 obtain⟨kp,hkp⟩:∃ kp,kp=w.heap.size:=⟨_,rfl⟩
 obtain⟨kr,hkr⟩:∃ kr,kr=kp+1:=⟨_,rfl⟩
 have hb0:Below w.heap.size w W:=by rw [hW];exact ((Below.refl _ _).alloc (Nat.le_refl _) _).alloc (by simp) _
 have hWs:W.heap.size=w.heap.size+2:=by rw [hW];simp
 have bp0:W.heap[kp]?=some (progO C Ab nb capb):=by rw [hW,hkp];exact alloc_blk _ (heap_alloc_new w _)
 have br0:W.heap[kr]?=some resO:=by
  have:=heap_alloc_new (w.alloc (progO C Ab nb capb)) resO
  rw [hW,hkr,hkp];simpa using this
 have HC:=hcheck W hb0
 go_enter Tryz.func10,Tryz.ntmps10
 go_wp2_with fail
 have hWu:W=(w.alloc (.cells #[.int .i64 C.q,.int .i64 C.n,.slice C.va C.nv C.vcap,.slice Ab nb capb] 27)).alloc (.cells #[.slice none 0 0,.int .i64 0,.int .i64 0] 41):=hW
 rw [<-hWu]
 simp only [<-hkp,<-hkr]
 have hkpw:kp<W.heap.size:=blk_lt bp0
 have hkrw:kr<W.heap.size:=blk_lt br0
 have hpr:kp≠kr:=by omega
 replace hkp:=Lib.hid hkp
 replace hkr:=Lib.hid hkr
 replace hWs:=Lib.hid hWs
 clear hWu hW
 go_wp2_with (first|(go_at_call 36;refine HC.mono ?_;rintro e w1 ⟨rfl,hb1⟩;have bp1:=below_blk hb1 bp0 hkpw;have br1:=below_blk hb1 br0 hkrw;have d0_1:w1.cell? ⟨kp,0,none⟩=some (.int .i64 C.q):=(cell_blk (show w1.heap[kp]?=some (.cells _ _ (0,0)) from bp1) _).trans rfl;have d1_1:w1.cell? ⟨kp,1,none⟩=some (.int .i64 C.n):=(cell_blk (show w1.heap[kp]?=some (.cells _ _ (0,0)) from bp1) _).trans rfl;have d2_1:w1.cell? ⟨kp,2,none⟩=some (.slice C.va C.nv C.vcap):=(cell_blk (show w1.heap[kp]?=some (.cells _ _ (0,0)) from bp1) _).trans rfl;have d3_1:w1.cell? ⟨kp,3,none⟩=some (.slice Ab nb capb):=(cell_blk (show w1.heap[kp]?=some (.cells _ _ (0,0)) from bp1) _).trans rfl))
 have hB1:Below w.heap.size w w1:=hb0.trans ⟨hb1.os,hb1.tape,hb1.output,hb1.size,fun k hk=>hb1.block k (by have:=hb0.size;omega)⟩
 have HB:=begin_any hE hsb hsc hnbl (base:=w.heap.size) hB1.size
 clear HC hb1 hb0 bp0 br0 hkpw hkrw
 have hkpw:kp<w1.heap.size:=blk_lt bp1
 have hkrw:kr<w1.heap.size:=blk_lt br1
 go_wp2_with (first|(go_at_call 37;refine HB.mono ?_;rintro e w2 ⟨bp,foot2,rfl,hM2,hf2,hb2⟩;have bp2:=below_blk hb2 bp1 hkpw;have br2:=below_blk hb2 br1 hkrw;clear d0_1 d1_1 d2_1 d3_1 HB;have d0_2:w2.cell? ⟨kp,0,none⟩=some (.int .i64 C.q):=(cell_blk (show w2.heap[kp]?=some (.cells _ _ (0,0)) from bp2) _).trans rfl;have d1_2:w2.cell? ⟨kp,1,none⟩=some (.int .i64 C.n):=(cell_blk (show w2.heap[kp]?=some (.cells _ _ (0,0)) from bp2) _).trans rfl;have d2_2:w2.cell? ⟨kp,2,none⟩=some (.slice C.va C.nv C.vcap):=(cell_blk (show w2.heap[kp]?=some (.cells _ _ (0,0)) from bp2) _).trans rfl;have d3_2:w2.cell? ⟨kp,3,none⟩=some (.slice Ab nb capb):=(cell_blk (show w2.heap[kp]?=some (.cells _ _ (0,0)) from bp2) _).trans rfl))
 have hB2:Below w.heap.size w w2:=hB1.trans ⟨hb2.os,hb2.tape,hb2.output,hb2.size,fun k hk=>hb2.block k (by have:=hB1.size;omega)⟩
 have P2:Aside w2 foot2 kp (progO C Ab nb capb):=⟨bp2,fun h=>by have:=hf2 _ h;omega⟩
 have R2:Aside w2 foot2 kr resO:=⟨br2,fun h=>by have:=hf2 _ h;omega⟩
 obtain⟨b0,hb00⟩:∃ b0:Mk,b0=Mk.none.app (if nb=0 then [] else Al.beginC E):=⟨_,rfl⟩
 rw [<-hb00] at hM2
 have e0:(if nb=0 then [] else Al.beginC E)=Al.preC E body:=by
  unfold Al.preC
  rw [show nb=body.length from hnb]
  cases body<;> simp
 rw [e0] at hb00
 have l0:b0.out.length=Al.bodyP body:=by rw [hb00,Mk.app_len,Al.preC_len];simp [Mk.none]
 have t0:b0.tapeOut=[]:=by rw [hb00];rfl
 have u0:b0.givenUp=[]:=by rw [hb00];rfl
 have HA:=all_made R w 7 0 rfl body Ab capb (by rw [<-(show nb=body.length from hnb)];exact hK) hg (by rw [<-(show nb=body.length from hnb)];exact hcap) b0 w2 bp foot2 hB2 hM2 (by rw [l0];omega) (by rw [t0];simp) (by rw [u0];simp)
 rw [<-(show nb=body.length from hnb)] at HA
 rw [l0] at HA
 obtain⟨x,hx⟩:∃ x,x=Al.genL E 0 0 0 (Al.bodyP body) body:=⟨_,rfl⟩
 obtain⟨tp,htp⟩:∃ tp,tp=Al.posTL E 0 (Al.bodyP body) body:=⟨_,rfl⟩
 obtain⟨gp,hgp⟩:∃ gp,gp=Al.posGL E 0 (Al.bodyP body) body:=⟨_,rfl⟩
 have htl:=Al.posTL_le E body 0 (Al.bodyP body)
 have hgl:=Al.posGL_le E body 0 (Al.bodyP body)
 rw [<-hx,<-htp,<-hgp] at HA
 rw [<-htp,<-hx] at htl
 rw [<-hgp,<-hx] at hgl
 rw [<-hx] at hlen
 replace hx:=Lib.hid hx
 replace htp:=Lib.hid htp
 replace hgp:=Lib.hid hgp
 replace hb00:=Lib.hid hb00
 clear bp2 br2 hb2 hf2 bp1 br1 hkpw hkrw
 go_wp2_with (first|(go_at_call 38;refine HA.mono ?_;rintro e w3 ⟨rfl,foot3,b3,G,hM3,hC3⟩;clear d0_2 d1_2 d2_2 d3_2))
 have P3:=P2.step hC3
 have R3:=R2.step hC3
 have hB3:=hM2.since hB2 hC3
 have e3:=G.len
 have L3:b3.out.length<975000:=by have h0:b0.out.length=_:=l0;omega
 have T3:b3.tapeOut=tp.map Int.ofNat:=by rw [G.tapeOut,t0];rfl
 have U3:b3.givenUp=gp.map Int.ofNat:=by rw [G.givenUp,u0];rfl
 clear hM2 P2 R2 hB2 HA
 replace e3:=Lib.hid e3
 replace l0:=Lib.hid l0
 replace T3:=Lib.hid T3
 replace U3:=Lib.hid U3
 go_wp2_with (first|(go_at_call 39;refine (halt_makes C b3 0 (by omega) _ _ _ _ hM3).mono ?_;rintro e w4 ⟨rfl,foot4,hM4,hC4⟩))
 have P4:=P3.step hC4
 have R4:=R3.step hC4
 have hB4:=hM3.since hB3 hC4
 obtain⟨b4,hb4⟩:∃ b4:Mk,b4=b3.app [Al.ci 20 0 0 0 0 0]:=⟨_,rfl⟩
 rw [<-hb4] at hM4
 have L4:b4.out.length=b3.out.length+1:=by rw [hb4];simp
 have T4:b4.tapeOut=tp.map Int.ofNat:=by rw [hb4];exact T3
 have U4:b4.givenUp=gp.map Int.ofNat:=by rw [hb4];exact U3
 have l0':b0.out.length=Al.bodyP body:=l0
 have e3':b3.out.length=b0.out.length+x.length:=e3
 have HE:=ends_makes C b4 tp gp T4 U4 (fun k hk=>by
   have:=Al.posTL_lt E body 0 (Al.bodyP body) k (by rw [<-(show tp=_ from htp)];exact hk)
   rw [<-(show x=_ from hx)] at this;omega) (fun k hk=>by
   have:=Al.posGL_lt E body 0 (Al.bodyP body) k (by rw [<-(show gp=_ from hgp)];exact hk)
   rw [<-(show x=_ from hx)] at this;omega) (by omega) (by omega) (by omega) w4 w.heap.size bp foot4 hM4
 clear l0' e3' hM3 hC3 hC4 hB3 P3 R3
 replace hb4:=Lib.hid hb4
 replace L4:=Lib.hid L4
 replace T4:=Lib.hid T4
 replace U4:=Lib.hid U4
 go_wp2_with (first|(go_at_call 40;refine HE.mono ?_;rintro e w5 ⟨rfl,foot5,hM5,hC5⟩))
 have P5:=P4.step hC5
 have R5:=R4.step hC5
 have hB5:=hM4.since hB4 hC5
 obtain⟨b6,hb6⟩:∃ b6:Mk,b6=(b4.ended tp 1).ended gp 2:=⟨_,rfl⟩
 rw [<-hb6] at hM5
 obtain⟨vo,vs,o6,o7,o8,hvo,hvs,hvf⟩:=begin_outs hM5
 have hL6:b6.out.length<=b4.out.length+2/\b4.out.length<=b6.out.length:=by
  have h1:=endO_len b4.out tp 1
  have h2:=endO_len (b4.ended tp 1).out gp 2
  have e1:(b4.ended tp 1).out=endO b4.out tp 1:=rfl
  have e2:b6.out=endO (b4.ended tp 1).out gp 2:=by rw [hb6];rfl
  rw [e2];rw [e1] at h2 ⊢;omega
 have L4':b4.out.length=b3.out.length+1:=L4
 have HCl:=clone_any hvo.drew (by omega) (by omega)
 have n5:w5.cell? ⟨kp,1,none⟩=some (.int .i64 C.n):=(cell_blk (show w5.heap[kp]?=some (.cells _ _ (0,0)) from P5.h) _).trans rfl
 have kpl:kp<w5.heap.size:=blk_lt P5.h
 have krl:kr<w5.heap.size:=blk_lt R5.h
 have bb:=hM5.bounds
 have w8:IntKind.i64.wrap (C.scratch+C.n)=C.scratch+C.n:=IntWalk.i64_in _ (by omega)
 replace hL6:=Lib.hid hL6
 replace hb6:=Lib.hid hb6
 clear L4'
 replace hsc:=Lib.hid hsc
 replace hmem:=Lib.hid hmem
 refine start_ (n:=21) (S:=fun w'=>w'.cell? ⟨bp,6,none⟩=some vo/\w'.cell? ⟨bp,7,none⟩=some vs/\w'.cell? ⟨bp,8,none⟩=some (.int .i64 C.scratch)/\w'.cell? ⟨kp,1,none⟩=some (.int .i64 C.n)) (ds:=[]) #[false,false,false,false,false,false,false,false,false,false,false,false,false,false,false,false,false,false,false,false,false] (by kernel_rfl) rfl rfl ⟨o6,o7,o8,n5⟩ (fun hHeld=>?_)
 refine pure_ (i:=0) (N:=some 23) (v:=?_) (a':=?_) #[true,false,false,false,false,false,false,false,false,false,false,false,false,false,false,false,false,false,false,false,false] rfl rfl (by kernel_rfl) (fun _ _ _ h=>h) (Or.inl ⟨by rfl,?_⟩) ?_ ?_
 rotate_left
 ·intro w'
  go_simp
  with_reducible rfl
 rotate_left
 ·simp only [Act.put,List.setIfInBounds_toArray,List.set_cons_zero,List.set_cons_succ,i64_w,i32_w]
  rfl
 refine pure_ (i:=1) (N:=some 24) (v:=?_) (a':=?_) #[true,true,false,false,false,false,false,false,false,false,false,false,false,false,false,false,false,false,false,false,false] rfl rfl (by kernel_rfl) (fun _ _ _ h=>h) (Or.inl ⟨by rfl,?_⟩) ?_ ?_
 rotate_left
 ·intro w'
  go_simp
  with_reducible rfl
 rotate_left
 ·simp only [Act.put,List.setIfInBounds_toArray,List.set_cons_zero,List.set_cons_succ,i64_w,i32_w]
  rfl
 refine pure_ (i:=2) (N:=some 25) (v:=?_) (a':=?_) #[true,true,true,false,false,false,false,false,false,false,false,false,false,false,false,false,false,false,false,false,false] rfl rfl (by kernel_rfl) (fun _ _ _ h=>h) (Or.inl ⟨by rfl,?_⟩) ?_ ?_
 rotate_left
 ·intro w'
  go_simp
  with_reducible rfl
 rotate_left
 ·simp only [Act.put,List.setIfInBounds_toArray,List.set_cons_zero,List.set_cons_succ,i64_w,i32_w]
  rfl
 refine pure_ (i:=5) (N:=some 28) (v:=?_) (a':=?_) #[true,true,true,false,false,true,false,false,false,false,false,false,false,false,false,false,false,false,false,false,false] rfl rfl (by kernel_rfl) (fun _ _ _ h=>h) (Or.inl ⟨by rfl,?_⟩) ?_ ?_
 rotate_left
 ·intro w'
  go_simp
  with_reducible rfl
 rotate_left
 ·simp only [Act.put,List.setIfInBounds_toArray,List.set_cons_zero,List.set_cons_succ,i64_w,i32_w]
  rfl
 refine pure_ (i:=6) (N:=some 29) (v:=?_) (a':=?_) #[true,true,true,false,false,true,true,false,false,false,false,false,false,false,false,false,false,false,false,false,false] rfl rfl (by kernel_rfl) (fun _ _ _ h=>h) (Or.inl ⟨by rfl,?_⟩) ?_ ?_
 rotate_left
 ·intro w'
  go_simp
  with_reducible rfl
 rotate_left
 ·simp only [Act.put,List.setIfInBounds_toArray,List.set_cons_zero,List.set_cons_succ,i64_w,i32_w]
  rfl
 refine pure_ (i:=7) (N:=some 30) (v:=?_) (a':=?_) #[true,true,true,false,false,true,true,true,false,false,false,false,false,false,false,false,false,false,false,false,false] rfl rfl (by kernel_rfl) (fun _ _ _ h=>h) (Or.inl ⟨by rfl,?_⟩) ?_ ?_
 rotate_left
 ·intro w'
  go_simp
  with_reducible rfl
 rotate_left
 ·simp only [Act.put,List.setIfInBounds_toArray,List.set_cons_zero,List.set_cons_succ,i64_w,i32_w]
  rfl
 refine pure_ (i:=9) (N:=some 32) (v:=?_) (a':=?_) #[true,true,true,false,false,true,true,true,false,true,false,false,false,false,false,false,false,false,false,false,false] rfl rfl (by kernel_rfl) (fun _ _ _ h=>h) (Or.inl ⟨by rfl,?_⟩) ?_ ?_
 rotate_left
 ·intro w'
  go_simp
  with_reducible rfl
 rotate_left
 ·simp only [Act.put,List.setIfInBounds_toArray,List.set_cons_zero,List.set_cons_succ,i64_w,i32_w]
  rfl
 refine pure_ (i:=10) (N:=some 33) (v:=?_) (a':=?_) #[true,true,true,false,false,true,true,true,false,true,true,false,false,false,false,false,false,false,false,false,false] rfl rfl (by kernel_rfl) (fun _ _ _ h=>h) (Or.inl ⟨by rfl,?_⟩) ?_ ?_
 rotate_left
 ·intro w'
  go_simp
  with_reducible rfl
 rotate_left
 ·simp only [Act.put,List.setIfInBounds_toArray,List.set_cons_zero,List.set_cons_succ,i64_w,i32_w]
  rfl
 refine pure_ (i:=14) (N:=some 37) (v:=?_) (a':=?_) #[true,true,true,false,false,true,true,true,false,true,true,false,false,false,true,false,false,false,false,false,false] rfl rfl (by kernel_rfl) (fun _ _ _ h=>h) (Or.inl ⟨by rfl,?_⟩) ?_ ?_
 rotate_left
 ·intro w'
  go_simp
  with_reducible rfl
 rotate_left
 ·simp only [Act.put,List.setIfInBounds_toArray,List.set_cons_zero,List.set_cons_succ,i64_w,i32_w]
  rfl
 refine pure_ (i:=15) (N:=some 38) (v:=?_) (a':=?_) #[true,true,true,false,false,true,true,true,false,true,true,false,false,false,true,true,false,false,false,false,false] rfl rfl (by kernel_rfl) (fun _ _ _ h=>h) (Or.inl ⟨by rfl,?_⟩) ?_ ?_
 rotate_left
 ·intro w'
  go_simp
  with_reducible rfl
 rotate_left
 ·simp only [Act.put,List.setIfInBounds_toArray,List.set_cons_zero,List.set_cons_succ,i64_w,i32_w]
  rfl
 refine pure_ (i:=16) (N:=some 39) (v:=?_) (a':=?_) #[true,true,true,false,false,true,true,true,false,true,true,false,false,false,true,true,true,false,false,false,false] rfl rfl (by kernel_rfl) (fun _ _ _ h=>h) (Or.inl ⟨by rfl,?_⟩) ?_ ?_
 rotate_left
 ·intro w'
  go_simp
  with_reducible rfl
 rotate_left
 ·simp only [Act.put,List.setIfInBounds_toArray,List.set_cons_zero,List.set_cons_succ,i64_w,i32_w]
  rfl
 refine take_ (i:=3) (N:=some 26) (v:=?_) (a':=?_) #[true,true,true,true,false,true,true,true,false,true,true,false,false,false,true,true,true,false,false,false,false] rfl rfl (by kernel_rfl) (fun _ _ _ h=>h) (Or.inl ⟨by rfl,?_⟩) hHeld ?_ ?_
 rotate_left
 ·rintro w' ⟨s0,s1,s2,s3⟩
  go_simp
  with_reducible rfl
 rotate_left
 ·simp only [Act.put,List.setIfInBounds_toArray,List.set_cons_zero,List.set_cons_succ,i64_w,i32_w]
  rfl
 refine take_ (i:=8) (N:=some 31) (v:=?_) (a':=?_) #[true,true,true,true,false,true,true,true,true,true,true,false,false,false,true,true,true,false,false,false,false] rfl rfl (by kernel_rfl) (fun _ _ _ h=>h) (Or.inl ⟨by rfl,?_⟩) hHeld ?_ ?_
 rotate_left
 ·rintro w' ⟨s0,s1,s2,s3⟩
  go_simp
  with_reducible rfl
 rotate_left
 ·simp only [Act.put,List.setIfInBounds_toArray,List.set_cons_zero,List.set_cons_succ,i64_w,i32_w]
  rfl
 refine take_ (i:=11) (N:=some 34) (v:=?_) (a':=?_) #[true,true,true,true,false,true,true,true,true,true,true,true,false,false,true,true,true,false,false,false,false] rfl rfl (by kernel_rfl) (fun _ _ _ h=>h) (Or.inl ⟨by rfl,?_⟩) hHeld ?_ ?_
 rotate_left
 ·rintro w' ⟨s0,s1,s2,s3⟩
  go_simp
  with_reducible rfl
 rotate_left
 ·simp only [Act.put,List.setIfInBounds_toArray,List.set_cons_zero,List.set_cons_succ,i64_w,i32_w]
  rfl
 refine pure_ (i:=12) (N:=some 35) (v:=?_) (a':=?_) #[true,true,true,true,false,true,true,true,true,true,true,true,true,false,true,true,true,false,false,false,false] rfl rfl (by kernel_rfl) (fun _ _ _ h=>h) (Or.inl ⟨by rfl,?_⟩) ?_ ?_
 rotate_left
 ·intro w'
  go_simp
  with_reducible rfl
 rotate_left
 ·simp only [Act.put,List.setIfInBounds_toArray,List.set_cons_zero,List.set_cons_succ,i64_w,i32_w]
  rfl
 refine take_ (i:=17) (N:=some 40) (v:=?_) (a':=?_) #[true,true,true,true,false,true,true,true,true,true,true,true,true,false,true,true,true,true,false,false,false] rfl rfl (by kernel_rfl) (fun _ _ _ h=>h) (Or.inl ⟨by rfl,?_⟩) hHeld ?_ ?_
 rotate_left
 ·rintro w' ⟨s0,s1,s2,s3⟩
  go_simp
  with_reducible rfl
 rotate_left
 ·simp only [Act.put,List.setIfInBounds_toArray,List.set_cons_zero,List.set_cons_succ,i64_w,i32_w]
  rfl
 refine one_ (i:=4) (N:=some 27) #[true,true,true,true,true,true,true,true,true,true,true,true,true,false,true,true,true,true,false,false,false] rfl rfl (by kernel_rfl) (by decide) (fun K hK=>?_)
 refine goes_ Tryz.func41 (by kernel_rfl) rfl #[vo] (by rfl) rfl rfl (by simp only [List.map_toArray,List.map_cons,List.map_nil];rfl) ?_
 with_reducible refine (HCl).mono ?_
 rintro e w6 ⟨vi,rfl,hvi,hb6'⟩
 refine⟨_,rfl,?_⟩
 obtain⟨ai,cpi,rfl⟩:=own_slice hvi
 have o6_6:=cell_since hb6' (show w5.drew.cell? _=_ from o6)
 have o7_6:=cell_since hb6' (show w5.drew.cell? _=_ from o7)
 have o8_6:=cell_since hb6' (show w5.drew.cell? _=_ from o8)
 have n6:=cell_since hb6' (show w5.drew.cell? _=_ from n5)
 have R6:=below_blk hb6' (show w5.drew.heap[kr]?=_ from R5.h) krl
 have r0_6:w6.cell? ⟨kr,0,none⟩=some (.slice none 0 0):=(cell_blk (show w6.heap[kr]?=some (.cells _ _ (0,0)) from R6) _).trans rfl
 have r1_6:w6.cell? ⟨kr,1,none⟩=some (.int .i64 0):=(cell_blk (show w6.heap[kr]?=some (.cells _ _ (0,0)) from R6) _).trans rfl
 have r2_6:w6.cell? ⟨kr,2,none⟩=some (.int .i64 0):=(cell_blk (show w6.heap[kr]?=some (.cells _ _ (0,0)) from R6) _).trans rfl
 have f0_6:=frozen_blk (show w6.heap[kr]?=some (.cells _ _ (0,0)) from R6) 0
 have f1_6:=frozen_blk (show w6.heap[kr]?=some (.cells _ _ (0,0)) from R6) 1
 have f2_6:=frozen_blk (show w6.heap[kr]?=some (.cells _ _ (0,0)) from R6) 2
 refine hK.out _ _ ⟨o6_6,o7_6,o8_6,n6⟩ (fun hHeld=>?_)
 clear hK K
 refine norm_ (a':=?_) ?_ ?_
 rotate_left
 ·show Act.put _ (some 27) _=_
  simp only [Act.put,List.setIfInBounds_toArray,List.set_cons_zero,List.set_cons_succ,i64_w,i32_w]
  rfl
 refine pure_ (i:=13) (N:=some 36) (v:=?_) (a':=?_) #[true,true,true,true,true,true,true,true,true,true,true,true,true,true,true,true,true,true,false,false,false] rfl rfl (by kernel_rfl) (fun _ _ _ h=>h) (Or.inl ⟨by rfl,?_⟩) ?_ ?_
 rotate_left
 ·intro w'
  go_simp
  with_reducible rfl
 rotate_left
 ·simp only [Act.put,List.setIfInBounds_toArray,List.set_cons_zero,List.set_cons_succ,i64_w,i32_w]
  rfl
 refine one_ (i:=18) (N:=none) #[true,true,true,true,true,true,true,true,true,true,true,true,true,true,true,true,true,true,true,false,false] rfl rfl (by kernel_rfl) (by decide) (fun K hK=>?_)
 go_simp
 have R6':w6.heap[kr]?=some (.cells #[.slice none 0 0,.int .i64 0,.int .i64 0] 41 (0,0)):=R6
 obtain⟨W7,hW7⟩:∃ W7,W7=((w6.setCell ⟨kr,0,none⟩ (.slice ai b6.out.length cpi)).setCell ⟨kr,1,none⟩ (.int .i64 24)).setCell ⟨kr,2,none⟩ (.int .i64 (C.scratch+C.n)):=⟨_,rfl⟩
 have R7:W7.heap[kr]?=some (.cells #[.slice ai b6.out.length cpi,.int .i64 24,.int .i64 (C.scratch+C.n)] 41 (0,0)):=by rw [hW7];exact set_blk (set_blk (set_blk R6' 0 _) 1 _) 2 _
 have N7:∀ k,k≠kr->W7.heap[k]?=w6.heap[k]?:=fun k hk=>by rw [hW7,set_blk_ne _ _ hk,set_blk_ne _ _ hk,set_blk_ne _ _ hk]
 have S7:W7.heap.size=w6.heap.size:=by rw [hW7,set_size,set_size,set_size]
 have X7:W7.os=w6.os/\W7.tape=w6.tape/\W7.output=w6.output:=by rw [hW7];exact⟨rfl,rfl,rfl⟩
 have hbr:bp≠kr:=fun h=>by
  obtain⟨cc,hcc⟩:=hM5.blk
  have:=R5.h
  rw [<-h,hcc] at this
  cases this
 have o6_7:W7.cell? ⟨bp,6,none⟩=some vo:=by rw [World.cell?_of_block (N7 bp hbr)];exact o6_6
 have o7_7:W7.cell? ⟨bp,7,none⟩=some vs:=by rw [World.cell?_of_block (N7 bp hbr)];exact o7_6
 have o8_7:W7.cell? ⟨bp,8,none⟩=some (.int .i64 C.scratch):=by rw [World.cell?_of_block (N7 bp hbr)];exact o8_6
 have n7:W7.cell? ⟨kp,1,none⟩=some (.int .i64 C.n):=by rw [World.cell?_of_block (N7 kp hpr)];exact n6
 have q0:W7.cell? ⟨kr,0,none⟩=some (.slice ai b6.out.length cpi):=(cell_blk R7 _).trans rfl
 have q1:W7.cell? ⟨kr,1,none⟩=some (.int .i64 24):=(cell_blk R7 _).trans rfl
 have q2:W7.cell? ⟨kr,2,none⟩=some (.int .i64 (C.scratch+C.n)):=(cell_blk R7 _).trans rfl
 rw [<-hW7]
 replace hW7:=Lib.hid hW7
 replace S7:=Lib.hid S7
 refine hK.out _ _ ⟨o6_7,o7_7,o8_7,n7⟩ (fun hHeld=>?_)
 clear hK K
 refine pure_ (i:=19) (N:=some 3) (v:=?_) (a':=?_) #[true,true,true,true,true,true,true,true,true,true,true,true,true,true,true,true,true,true,true,true,false] rfl rfl (by kernel_rfl) (fun _ _ _ h=>h) (Or.inl ⟨by rfl,?_⟩) ?_ ?_
 rotate_left
 ·intro w'
  go_simp
  with_reducible rfl
 rotate_left
 ·simp only [Act.put,List.setIfInBounds_toArray,List.set_cons_zero,List.set_cons_succ,i64_w,i32_w]
  rfl
 refine pure_ (i:=20) (N:=some 4) (v:=?_) (a':=?_) #[true,true,true,true,true,true,true,true,true,true,true,true,true,true,true,true,true,true,true,true,true] rfl rfl (by kernel_rfl) (fun _ _ _ h=>h) (Or.inl ⟨by rfl,?_⟩) ?_ ?_
 rotate_left
 ·intro w'
  go_simp
  with_reducible rfl
 rotate_left
 ·simp only [Act.put,List.setIfInBounds_toArray,List.set_cons_zero,List.set_cons_succ,i64_w,i32_w]
  rfl
 refine done_ (by kernel_rfl) ?_
 clear hHeld
 go_wp2_with fail
 have hwr:w.heap.size<=kr:=by have h1:kr=kp+1:=hkr;have h2:kp=w.heap.size:=hkp;omega
 have hb6w:Below w.heap.size w w6:=hB5.trans ⟨hb6'.os,hb6'.tape,hb6'.output,hb6'.size,fun k hk=>hb6'.block k (by have:=hB5.size;simp;omega)⟩
 refine bodyPost_ret (v:= .tuple #[.agg #[.slice ai b6.out.length cpi,.int .i64 24,.int .i64 (C.scratch+C.n)],vs,Value.nilIface]) (by simp [results,Tryz.results10,go_sem,q0,q1,q2]) rfl ⟨_,_,by rw [show C.scratch+C.n=_ from hmem],⟨b6,?_,?_,?_,?_⟩,?_⟩
 ·have g0:=G.out
  have hb6':b6=_:=hb6
  rw [hb6']
  show endO (endO b4.out tp 1) gp 2=_
  rw [show b4=_ from hb4]
  show endO (endO (b3.out++[_]) tp 1) gp 2=_
  rw [g0,show b0=_ from hb00]
  have:=Al.end_prog E body _ rfl
  rw [<-(show x=_ from hx)] at this ⊢
  rw [<-(show tp=_ from htp),<-(show gp=_ from hgp)] at this
  rw [<-this]
  simp [Mk.none,Mk.app,Al.insts,Al.ci,endO,Al.endI]
 ·have g0:=G.spans
  rw [show b6=_ from hb6]
  show (b4.spans++endS tp)++endS gp=_
  rw [show b4=_ from hb4]
  show ((b3.spans++[_])++endS tp)++endS gp=_
  rw [g0,show b0=_ from hb00]
  have:=Al.end_spans E body 0 0
  rw [<-(show x=_ from hx),<-(show tp=_ from htp),<-(show gp=_ from hgp)] at this
  rw [<-this]
  simp [Mk.none,Mk.app,Al.spansOf,Al.ci,endS]
 ·refine own_base (own_of hvi fun k hk=>N7 k fun e=>?_) hB5.size
  have:=(hvi.lt k hk).1
  simp at this
  omega
 ·have h6:w6.ownsRow w.heap.size 108 2 vs b6.spans.length (spansV b6.spans):=own_of hvs fun k hk=>hb6'.block k (by have:=(hvs.lt k hk).2;simpa using this)
  exact own_of h6 fun k hk=>N7 k fun e=>own_ne_blk h6 R6' (by decide) (e ▸ hk)
 ·refine hb6w.trans ⟨X7.1,X7.2.1,X7.2.2,Nat.le_of_eq (show W7.heap.size=_ from S7).symm,fun k hk=>N7 k (by omega)⟩
end Go.Proofs.YtkplfaionpplaaaGreatDoor
