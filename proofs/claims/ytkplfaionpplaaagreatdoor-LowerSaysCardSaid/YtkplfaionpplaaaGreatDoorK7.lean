/- Part 7: B5, B6, B7. -/
import Derived.Test.YtkplfaionpplaaaGreatDoorK6
set_option maxRecDepth 100000
set_option maxHeartbeats 6400000
set_option linter.unusedVariables false
set_option linter.unusedSimpArgs false
namespace Go.Proofs.YtkplfaionpplaaaGreatDoor
open Go.RowKit Go.Proofs.YtkplfaionpplaaaGreatDoorW.PrintLast
structure MkC.Ok (C:MkC):Prop where
 q0:17<=C.q
 q1:C.q<8388608
 n0:4<=C.n
 n1:C.n<=256
 ring:Al.ringOk C.q C.n=true
 v1:C.nv<=12
theorem Maker.drew {w:World}{base bp:Nat}{foot:Nat->Prop}{C:MkC}{b:Mk}(h:Maker w base foot bp C b):Maker w.drew base foot bp C b:=h
theorem Chg.drew {a w:World}{f g:Nat->Prop}(h:Chg a w f g):Chg a w.drew f g:=⟨h.os,h.tape,h.output,h.size,h.keep,h.foot⟩
theorem Maker.below {w w':World}{base bp:Nat}{foot:Nat->Prop}{C:MkC}{b:Mk}(h:Maker w base foot bp C b)(hb:Below w.heap.size w w'):Maker w' base foot bp C b:=by
 obtain⟨vo,vs,vt,vg,hblk,ho,hs,ht,hg,hne,hbb,hl,hfb,hfr,hf,hvt,hvg⟩:=h
 exact⟨vo,vs,vt,vg,below_blk hb hblk (blk_lt hblk),own_of ho fun k hk=>hb.block k (ho.lt k hk).2,own_of hs fun k hk=>hb.block k (hs.lt k hk).2,own_of ht fun k hk=>hb.block k (ht.lt k hk).2,own_of hg fun k hk=>hb.block k (hg.lt k hk).2,hne,hbb,hl,hfb,hfr,fun k hk=>⟨(hf k hk).1,by have:=(hf k hk).2;have:=hb.size;omega⟩,hvt,hvg⟩
theorem Chg.of_below {w w':World}(foot:Nat->Prop)(hb:Below w.heap.size w w'):Chg w w' foot foot:=⟨hb.os,hb.tape,hb.output,hb.size,fun k hk _=>hb.block k hk,fun _ h=> .inl h⟩
@[simp] theorem cutC_length (q x:Int):(Al.cutC q x).length=3:=rfl
@[simp] theorem quotC_length (q m x:Int):(Al.quotC q m x).length=3:=rfl
@[simp] theorem reduceC_length (q m x:Int):(Al.reduceC q m x).length=7:=rfl
attribute [simp] Mk.app_len
theorem up_makes (C:MkC)(hC:C.Ok)(b:Mk)(r:Int)(h:b.out.length<999990):Makes 177 [.int .i64 r] C b (b.app ([Al.upC C.n r])) (.tuple #[]):=by
 intro w base bp foot hM0
 have hC0:=Chg.refl w foot
 have q0:=hC.q0
 have q1:=hC.q1
 have n0:=hC.n0
 have n1:=hC.n1
 have c5:=hM0.cells.c5
 go_enter Tryz.func177,Tryz.ntmps177
 go_wp2_with (first|(go_at_call 112;refine (within_makes C _ (0) (C.n) ⟨3,r,r,1,0,0⟩ (by (try simp)<;> omega) _ _ _ _ hM0).mono ?_;rintro e w1 ⟨rfl,foot1,hM1,hC⟩;have hC1:=hC0.trans hC;clear hM0 hC0 hC c5))
 exact bodyPost_end (v:= .tuple #[]) (by simp [results,Tryz.results177,go_sem]) rfl ⟨rfl,_,by simpa [Al.upC] using hM1,hC1⟩
theorem down_makes (C:MkC)(hC:C.Ok)(b:Mk)(r:Int)(h:b.out.length<999990):Makes 163 [.int .i64 r] C b (b.app ([Al.downC C.n r])) (.tuple #[]):=by
 intro w base bp foot hM0
 have hC0:=Chg.refl w foot
 have q0:=hC.q0
 have q1:=hC.q1
 have n0:=hC.n0
 have n1:=hC.n1
 have c5:=hM0.cells.c5
 go_enter Tryz.func163,Tryz.ntmps163
 go_wp2_with (first|(go_at_call 112;refine (within_makes C _ (-1) (C.n) ⟨4,r,r,1,0,0⟩ (by (try simp)<;> omega) _ _ _ _ hM0).mono ?_;rintro e w1 ⟨rfl,foot1,hM1,hC⟩;have hC1:=hC0.trans hC;clear hM0 hC0 hC c5))
 exact bodyPost_end (v:= .tuple #[]) (by simp [results,Tryz.results163,go_sem]) rfl ⟨rfl,_,by simpa [Al.downC] using hM1,hC1⟩
theorem cut_makes (C:MkC)(hC:C.Ok)(b:Mk)(r:Int)(h:b.out.length<999990):Makes 155 [.int .i64 r] C b (b.app (Al.cutC C.q r)) (.tuple #[]):=by
 intro w base bp foot hM0
 have hC0:=Chg.refl w foot
 have q0:=hC.q0
 have q1:=hC.q1
 have n0:=hC.n0
 have n1:=hC.n1
 go_enter Tryz.func155,Tryz.ntmps155
 go_wp2_with (first|(go_at_call 164;refine (two_makes C _ 13 16 r 19 (by (try simp)<;> omega) _ _ _ _ hM0).mono ?_;rintro e w1 ⟨rfl,foot1,hM1,hC⟩;have hC1:=hC0.trans hC;clear hM0 hC0 hC;have c4:=hM1.cells.c4))
 go_still_tail 13,(by kernel_rfl)
 go_wp2_with (first|(go_at_call 112;refine (within_makes C _ (_) (_) ⟨4,17,r,19,0,0⟩ (by (try simp)<;> omega) _ _ _ _ hM1.drew).mono ?_;rintro e w2 ⟨rfl,foot2,hM2,hC⟩;have hC2:=hC1.drew.trans hC;clear hM1 hC1 hC c4))
 go_wp2_with (first|(go_at_call 168;refine (sel_makes C _ r 16 r 17 (by (try simp)<;> omega) _ _ _ _ hM2).mono ?_;rintro e w3 ⟨rfl,foot3,hM3,hC⟩;have hC3:=hC2.trans hC;clear hM2 hC2 hC))
 exact bodyPost_end (v:= .tuple #[]) (by simp [results,Tryz.results155,go_sem]) rfl ⟨rfl,_,by simpa [Mk.app_app,Al.cutC,Al.ci,IntWalk.i64_in (-C.q) (by omega),IntWalk.i64_in (C.q - 1) (by omega)] using hM3,hC3⟩
theorem quotient_makes (C:MkC)(hC:C.Ok)(b:Mk)(r most:Int)(h:b.out.length<999990):Makes 167 [.int .i64 r,.int .i64 most] C b (b.app (Al.quotC C.q most r)) (.tuple #[]):=by
 intro w base bp foot hM0
 have hC0:=Chg.refl w foot
 have q0:=hC.q0
 have q1:=hC.q1
 have n0:=hC.n0
 have n1:=hC.n1
 go_enter Tryz.func167,Tryz.ntmps167
 go_wp2_with (first|(go_at_call 164;refine (two_makes C _ 6 17 r 20 (by (try simp)<;> omega) _ _ _ _ hM0).mono ?_;rintro e w1 ⟨rfl,foot1,hM1,hC⟩;have hC1:=hC0.trans hC;clear hM0 hC0 hC))
 go_wp2_with (first|(go_at_call 112;refine (within_makes C _ (0) (most) ⟨5,18,17,19,0,0⟩ (by (try simp)<;> omega) _ _ _ _ hM1).mono ?_;rintro e w2 ⟨rfl,foot2,hM2,hC⟩;have hC2:=hC1.trans hC;clear hM1 hC1 hC;have c4:=hM2.cells.c4))
 go_wp2_with (first|(go_at_call 112;refine (within_makes C _ (0) (_) ⟨4,18,r,18,0,0⟩ (by (try simp)<;> omega) _ _ _ _ hM2).mono ?_;rintro e w3 ⟨rfl,foot3,hM3,hC⟩;have hC3:=hC2.trans hC;clear hM2 hC2 hC c4))
 exact bodyPost_end (v:= .tuple #[]) (by simp [results,Tryz.results167,go_sem]) rfl ⟨rfl,_,by simpa [Mk.app_app,Al.quotC,Al.ci,IntWalk.i64_in (2 * C.q) (by omega),IntWalk.i64_in (2 * C.q - 1) (by omega)] using hM3,hC3⟩
theorem reduce_makes (C:MkC)(hC:C.Ok)(b:Mk)(r most:Int)(h:b.out.length<999980):Makes 159 [.int .i64 r,.int .i64 most] C b (b.app (Al.reduceC C.q most r)) (.tuple #[]):=by
 intro w base bp foot hM0
 have hC0:=Chg.refl w foot
 have q0:=hC.q0
 have q1:=hC.q1
 have n0:=hC.n0
 have n1:=hC.n1
 go_enter Tryz.func159,Tryz.ntmps159
 go_wp2_with (first|(go_at_call 167;refine (quotient_makes C hC _ r most (by (try simp)<;> omega) _ _ _ _ hM0).mono ?_;rintro e w1 ⟨rfl,foot1,hM1,hC⟩;have hC1:=hC0.trans hC;clear hM0 hC0 hC))
 go_wp2_with (first|(go_at_call 77;refine (put_makes C _ ⟨2,r,18,0,0,0⟩ (by (try simp)<;> omega) _ _ _ _ hM1).mono ?_;rintro e w2 ⟨rfl,foot2,hM2,hC⟩;have hC2:=hC1.trans hC;clear hM1 hC1 hC))
 go_wp2_with (first|(go_at_call 155;refine (cut_makes C hC _ r (by (try simp)<;> omega) _ _ _ _ hM2).mono ?_;rintro e w3 ⟨rfl,foot3,hM3,hC⟩;have hC3:=hC2.trans hC;clear hM2 hC2 hC))
 exact bodyPost_end (v:= .tuple #[]) (by simp [results,Tryz.results159,go_sem]) rfl ⟨rfl,_,by simpa [Mk.app_app,Al.reduceC,Al.ci] using hM3,hC3⟩
theorem load_makes (C:MkC)(hC:C.Ok)(b:Mk)(d at_ v:Int)(h:b.out.length<999990)(v0:0<=v)(v1:v<C.nv):Makes 110 [.int .i64 d,.int .i64 at_,.int .i64 v] C b (b.app [Al.ci 15 d at_ 0 0 (2+C.n * v)]) (.tuple #[]):=by
 intro w base bp foot hM0
 obtain⟨c0,c1,c2,c3,c4,c5,c8,lt⟩:=hM0.cells
 go_enter Tryz.func110,Tryz.ntmps110
 go_wp2_with (first|(go_at_call 28;refine (place_yes _ _ _ _ _ _ _ _ hC.ring v0 v1 hC.v1).mono ?_;rintro e w1 ⟨rfl,hb⟩;have hM1:=hM0.below hb;have hC1:=Chg.of_below foot hb;clear hM0 hb))
 go_wp2_with (first|(go_at_call 77;refine (put_any hM1 ⟨15,d,at_,0,0,2+C.n * v⟩ (by omega)).mono ?_;rintro e w2 ⟨rfl,foot2,hM2,hC2⟩;clear hM1))
 exact bodyPost_end (v:= .tuple #[]) (by simp [results,Tryz.results110,go_sem]) rfl ⟨rfl,foot2,hM2,hC1.trans hC2⟩
theorem store_makes (C:MkC)(hC:C.Ok)(b:Mk)(d at_ v:Int)(h:b.out.length<999990)(v0:0<=v)(v1:v<C.nv):Makes 152 [.int .i64 d,.int .i64 at_,.int .i64 v] C b (b.app [Al.ci 16 0 at_ d 0 (2+C.n * v)]) (.tuple #[]):=by
 intro w base bp foot hM0
 obtain⟨c0,c1,c2,c3,c4,c5,c8,lt⟩:=hM0.cells
 go_enter Tryz.func152,Tryz.ntmps152
 go_wp2_with (first|(go_at_call 28;refine (place_yes _ _ _ _ _ _ _ _ hC.ring v0 v1 hC.v1).mono ?_;rintro e w1 ⟨rfl,hb⟩;have hM1:=hM0.below hb;have hC1:=Chg.of_below foot hb;clear hM0 hb))
 go_wp2_with (first|(go_at_call 77;refine (put_any hM1 ⟨16,0,at_,d,0,2+C.n * v⟩ (by omega)).mono ?_;rintro e w2 ⟨rfl,foot2,hM2,hC2⟩;clear hM1))
 exact bodyPost_end (v:= .tuple #[]) (by simp [results,Tryz.results152,go_sem]) rfl ⟨rfl,foot2,hM2,hC1.trans hC2⟩
def stmtV (s:Al.Stmt)(vb ve:Value):Array Value:= #[.int .i64 s.op,.int .i64 s.d,.int .i64 s.a,.int .i64 s.b,.int .i64 s.c,.int .i64 s.k,vb,ve]
structure Cap (w:World)(foot:Nat->Prop)(kb ks bp:Nat)(s:Al.Stmt)(vb ve:Value):Prop where
 hb:w.heap[kb]?=some (.cells #[.pointer (some ⟨bp,0,none⟩)] 91 (0,0))
 hs:w.heap[ks]?=some (.cells (stmtV s vb ve) 66 (0,0))
 nb:¬foot kb
 ns:¬foot ks
theorem Chg.blk {w w':World}{f f':Nat->Prop}(c:Chg w w' f f'){k:Nat}{x:Obj}(h:w.heap[k]?=some x)(hn:¬f k):w'.heap[k]?=some x/\¬f' k:=by
 have hk:=blk_lt h
 refine⟨(c.keep k hk hn).trans h,fun h'=>?_⟩
 rcases c.foot k h' with h'|h'
 ·exact hn h'
 ·omega
theorem Cap.step {w w':World}{f f':Nat->Prop}{kb ks bp:Nat}{s:Al.Stmt}{vb ve:Value}(h:Cap w f kb ks bp s vb ve)(c:Chg w w' f f'):Cap w' f' kb ks bp s vb ve:=
 ⟨(c.blk h.hb h.nb).1,(c.blk h.hs h.ns).1,(c.blk h.hb h.nb).2,(c.blk h.hs h.ns).2⟩
theorem Cap.drew {w:World}{f:Nat->Prop}{kb ks bp:Nat}{s:Al.Stmt}{vb ve:Value}(h:Cap w f kb ks bp s vb ve):Cap w.drew f kb ks bp s vb ve:=⟨h.hb,h.hs,h.nb,h.ns⟩
section
variable {w:World} {f:Nat->Prop} {kb ks bp:Nat} {s:Al.Stmt} {vb ve:Value} (h:Cap w f kb ks bp s vb ve)
include h
theorem Cap.p:w.cell? ⟨kb,0,none⟩=some (.pointer (some ⟨bp,0,none⟩)):=by rw [cell_blk h.hb];rfl
theorem Cap.s0:w.cell? ⟨ks,0,none⟩=some (.int .i64 s.op):=by rw [cell_blk h.hs];rfl
theorem Cap.s1:w.cell? ⟨ks,1,none⟩=some (.int .i64 s.d):=by rw [cell_blk h.hs];rfl
theorem Cap.s2:w.cell? ⟨ks,2,none⟩=some (.int .i64 s.a):=by rw [cell_blk h.hs];rfl
theorem Cap.s3:w.cell? ⟨ks,3,none⟩=some (.int .i64 s.b):=by rw [cell_blk h.hs];rfl
theorem Cap.s4:w.cell? ⟨ks,4,none⟩=some (.int .i64 s.c):=by rw [cell_blk h.hs];rfl
theorem Cap.s5:w.cell? ⟨ks,5,none⟩=some (.int .i64 s.k):=by rw [cell_blk h.hs];rfl
theorem Cap.s6:w.cell? ⟨ks,6,none⟩=some vb:=by rw [cell_blk h.hs];rfl
theorem Cap.s7:w.cell? ⟨ks,7,none⟩=some ve:=by rw [cell_blk h.hs];rfl
end
theorem Cap.make {w:World}{base bp:Nat}{foot:Nat->Prop}{C:MkC}{b:Mk}(hM:Maker w base foot bp C b)(s:Al.Stmt)(vb ve:Value):
  Maker ((w.alloc (.cells #[.pointer (some ⟨bp,0,none⟩)] 91)).alloc (.cells (stmtV s vb ve) 66)) base foot bp C b/\
   Chg w ((w.alloc (.cells #[.pointer (some ⟨bp,0,none⟩)] 91)).alloc (.cells (stmtV s vb ve) 66)) foot foot/\
   Cap ((w.alloc (.cells #[.pointer (some ⟨bp,0,none⟩)] 91)).alloc (.cells (stmtV s vb ve) 66)) foot w.heap.size (w.heap.size+1) bp s vb ve:=by
 have hb:Below w.heap.size w ((w.alloc (.cells #[.pointer (some ⟨bp,0,none⟩)] 91)).alloc (.cells (stmtV s vb ve) 66)):=((Below.refl _ _).alloc (Nat.le_refl _) _).alloc (by simp) _
 have hf:∀ k,w.heap.size<=k->¬foot k:=fun k hk h=>by
  obtain⟨vo,vs,vt,vg,hblk,ho,hs,ht,hg,hne,hbb,hl,hfb,hfr,hf,hvt,hvg⟩:=hM
  have:=(hf k h).2
  omega
 refine⟨hM.below hb,Chg.of_below _ hb,alloc_blk _ (heap_alloc_new w _),?_,hf _ (Nat.le_refl _),hf _ (by omega)⟩
 have:=heap_alloc_new (w.alloc (.cells #[.pointer (some ⟨bp,0,none⟩)] 91)) (.cells (stmtV s vb ve) 66)
 simpa using this
theorem each_any {w:World}{base bp:Nat}{foot:Nat->Prop}{C:MkC}{b b2:Mk}(hC:C.Ok)(hM0:Maker w base foot bp C b)(hlen:b.out.length<999000)(hlen2:b2.out.length<999900)(f:FuncId)(caps:List Value){fn:Func}(hfn:Tryz.prog.funcs[f]?=some fn)(hname:(fn.name == "runtime.NumGoroutine")=false)(hbody:fn.body.isSome=true)
  (I:World->(Nat->Prop)->Prop) (hI:I w foot) (hstep:∀ w w' f f',I w f->Chg w w' f f'->I w' f')
  (hb:∀ w1 foot1,Maker w1 base foot1 bp C (b.app [Al.ci 1 9 0 0 0 0])->I w1 foot1->Calls Tryz.prog f caps.toArray w1 fun e w'=>e= .returned (.tuple #[])/\∃ foot',Maker w' base foot' bp C b2/\Chg w1 w' foot1 foot'):
  Calls Tryz.prog 150 #[.pointer (some ⟨bp,0,none⟩),.func (.func f) #[] caps.toArray] w fun e w'=>e= .returned (.tuple #[])/\∃ foot',Maker w' base foot' bp C (b2.app [Al.upC C.n 9,Al.ci 13 16 9 10 0 0,Al.ci 19 0 16 0 0 ((b.out.length+1:Nat):Int)])/\Chg w w' foot foot':=by
 have hC0:=Chg.refl w foot
 go_enter Tryz.func150,Tryz.ntmps150
 go_wp2_with (first|(go_at_call 72;refine (constant_makes C _ 9 0 (by omega) _ _ _ _ hM0).mono ?_;rintro e w1 ⟨rfl,foot1,hM1,hC1⟩;have hI1:=hstep _ _ _ _ hI hC1;clear hM0 hC0))
 go_wp2_with (first|(go_at_call 111;refine (here_makes C _ _ _ _ _ hM1).mono ?_;rintro e w2 ⟨rfl,foot2,hM2,hC2⟩;have hI2:=hstep _ _ _ _ hI1 hC2;have hC2:=hC1.trans hC2;clear hM1 hC1 hI1 hI))
 rw [enters_ hfn hname hbody,Oper.upon_enter]
 refine (hb _ _ hM2 hI2).mono ?_
 rintro e w3 ⟨rfl,foot3,hM3,hC3⟩
 replace hC3:=hC2.trans hC3
 clear hM2 hC2 hI2 hb
 go_wp2_with (first|(go_at_call 177;refine (up_makes C hC _ 9 (by omega) _ _ _ _ hM3).mono ?_;rintro e w4 ⟨rfl,foot4,hM4,hC⟩;have hC4:=hC3.trans hC;clear hM3 hC3 hC))
 go_wp2_with (first|(go_at_call 164;refine (two_makes C _ 13 16 9 10 (by (try simp)<;> omega) _ _ _ _ hM4).mono ?_;rintro e w5 ⟨rfl,foot5,hM5,hC⟩;have hC5:=hC4.trans hC;clear hM4 hC4 hC))
 go_wp2_with (first|(go_at_call 77;refine (put_makes C _ ⟨19,0,16,0,0,_⟩ (by (try simp)<;> omega) _ _ _ _ hM5).mono ?_;rintro e w6 ⟨rfl,foot6,hM6,hC⟩;have hC6:=hC5.trans hC;clear hM5 hC5 hC))
 exact bodyPost_end (v:= .tuple #[]) (by simp [results,Tryz.results150,go_sem]) rfl ⟨rfl,_,by simpa [Mk.app_app,Al.ci] using hM6,hC6⟩
structure CE (C:MkC)(E:Al.Env):Prop where
 ok:C.Ok
 q:C.q=E.q
 n:C.n=E.n
 nv:C.nv=E.nv
 sc:C.scratch=E.scratch
theorem CE.place {C:MkC}{E:Al.Env}(h:CE C E){v:Int}(hv:Al.isVar E v):((E.place v.toNat:Nat):Int)=2+C.n * v:=by
 have:=hv.1
 unfold Al.Env.place
 rw [h.n]
 push_cast
 rw [Int.toNat_of_nonneg this]
attribute [simp] Al.eachC_length
@[simp] theorem zeroB_length (E:Al.Env) (d:Nat):(Al.zeroB E d).length=1:=rfl
@[simp] theorem copyB_length (E:Al.Env) (d a:Nat):(Al.copyB E d a).length=2:=rfl
@[simp] theorem addB_length (E:Al.Env) (d a b:Nat):(Al.addB E d a b).length=7:=rfl
@[simp] theorem subB_length (E:Al.Env) (d a b:Nat):(Al.subB E d a b).length=8:=rfl
@[simp] theorem mulB_length (E:Al.Env) (d a b:Nat):(Al.mulB E d a b).length=11:=rfl
@[simp] theorem scaleB_length (E:Al.Env) (d a:Nat):(Al.scaleB E d a).length=10:=rfl
@[simp] theorem pickB_length (E:Al.Env) (d a b c:Nat):(Al.pickB E d a b c).length=6:=rfl
@[simp] theorem roundB_length (E:Al.Env) (d a K:Nat):(Al.roundB E d a K).length=11:=rfl
@[simp] theorem expandB_length (E:Al.Env) (d a K:Nat):(Al.expandB E d a K).length=6:=rfl
@[simp] theorem normB_length (E:Al.Env) (a:Nat):(Al.normB E a).length=6:=rfl
structure IBox (w:World)(f:Nat->Prop)(k:Nat)(n:Int):Prop where
 h:w.heap[k]?=some (.cells #[.int .i64 n] 2 (0,0))
 n:¬f k
theorem IBox.step {w w':World}{f f':Nat->Prop}{k:Nat}{n:Int}(h:IBox w f k n)(c:Chg w w' f f'):IBox w' f' k n:=⟨(c.blk h.h h.n).1,(c.blk h.h h.n).2⟩
theorem IBox.drew {w:World}{f:Nat->Prop}{k:Nat}{n:Int}(h:IBox w f k n):IBox w.drew f k n:=⟨h.h,h.n⟩
theorem IBox.cell {w:World}{f:Nat->Prop}{k:Nat}{n:Int}(h:IBox w f k n):w.cell? ⟨k,0,none⟩=some (.int .i64 n):=by rw [cell_blk h.h];rfl
theorem IBox.make {W:World}{base bp:Nat}{foot:Nat->Prop}{C:MkC}{b:Mk}(hM:Maker W base foot bp C b)(n:Int):
  Maker (W.alloc (.cells #[.int .i64 n] 2)).drew base foot bp C b/\Chg W (W.alloc (.cells #[.int .i64 n] 2)).drew foot foot/\IBox (W.alloc (.cells #[.int .i64 n] 2)).drew foot W.heap.size n:=by
 have hb:Below W.heap.size W (W.alloc (.cells #[.int .i64 n] 2)).drew:=((Below.refl _ _).alloc (Nat.le_refl _) _).drew
 refine⟨hM.below hb,Chg.of_below _ hb,heap_alloc_new W _,fun h=>?_⟩
 obtain⟨vo,vs,vt,vg,hblk,ho,hs,ht,hg,hne,hbb,hl,hfb,hfr,hf,hvt,hvg⟩:=hM
 have:=(hf _ h).2
 omega
theorem one_le_pow2 (k:Nat):(1:Int)<=2 ^ k:=by
 have h:(1:Nat)<=2 ^ k:=Nat.one_le_two_pow
 have:((2 ^ k:Nat):Int)=2 ^ k:=by push_cast;rfl
 omega
theorem CE.lt {C:MkC}{E:Al.Env}(h:CE C E){v:Int}(hv:Al.isVar E v):v<(C.nv:Int):=by rw [h.nv];exact hv.2
theorem square_makes (C:MkC)(hC:C.Ok)(b:Mk):Makes 158 [] C b b (.int .i64 ((C.q - 1) * (C.q - 1))):=by
 intro w base bp foot hM
 have q0:=hC.q0
 have q1:=hC.q1
 have c4:=hM.cells.c4
 have a1:0<=(C.q - 1) * (C.q - 1):=Int.mul_nonneg (by omega) (by omega)
 have a2:(C.q - 1) * (C.q - 1)<=8388607 * 8388607:=Int.mul_le_mul (by omega) (by omega) (by omega) (by omega)
 have e1:IntKind.i64.wrap (C.q - 1)=C.q - 1:=IntWalk.i64_in _ (by omega)
 have e2:IntKind.i64.wrap ((C.q - 1) * (C.q - 1))=(C.q - 1) * (C.q - 1):=IntWalk.i64_in _ (by omega)
 go_enter Tryz.func158,Tryz.ntmps158
 go_wp2_with fail
 go_still_tail 11,(by kernel_rfl)
 go_wp2_with fail
 exact bodyPost_ret (v:= .int .i64 ((C.q - 1) * (C.q - 1))) (by simp [results,Tryz.results158,go_sem,e1,e2]) rfl ⟨rfl,foot,hM.drew,(Chg.refl _ _).drew⟩
theorem zero_body {C:MkC}{E:Al.Env}(hE:CE C E){w:World}{base bp kb ks:Nat}{foot:Nat->Prop}{b:Mk}{s:Al.Stmt}{x6 x7:Value}(hM0:Maker w base foot bp C b)(hK0:Cap w foot kb ks bp s x6 x7)(vd:Al.isVar E s.d)(h:b.out.length<999500):
  Calls Tryz.prog 151 #[.pointer (some ⟨kb,0,none⟩),.pointer (some ⟨ks,0,none⟩)] w fun e w'=>e= .returned (.tuple #[])/\∃ foot',Maker w' base foot' bp C (b.app (Al.zeroB E s.d.toNat))/\Chg w w' foot foot':=by
 have hC:=hE.ok
 have hC0:=Chg.refl w foot
 have q0:=hC.q0
 have q1:=hC.q1
 have n0:=hC.n0
 have n1:=hC.n1
 have ed:=hE.place vd
 have p0:=hK0.p
 have s1_0:=hK0.s1
 go_enter Tryz.func151,Tryz.ntmps151
 go_wp2_with (first|(go_at_call 152;refine (store_makes C hC _ 0 9 s.d (by (try simp)<;> omega) vd.1 (hE.lt vd) _ _ _ _ hM0).mono ?_;rintro e w1 ⟨rfl,foot1,hM1,hC⟩;have hK1:=hK0.step hC;have hC1:=hC0.trans hC;clear hM0 hC0 hC hK0 p0 s1_0))
 exact bodyPost_end (v:= .tuple #[]) (by simp [results,Tryz.results151,go_sem]) rfl ⟨rfl,_,by simpa [Mk.app_app,Al.ci,Al.ldC,Al.stC,ed,Al.zeroB] using hM1,hC1⟩
theorem copied_body {C:MkC}{E:Al.Env}(hE:CE C E){w:World}{base bp kb ks:Nat}{foot:Nat->Prop}{b:Mk}{s:Al.Stmt}{x6 x7:Value}(hM0:Maker w base foot bp C b)(hK0:Cap w foot kb ks bp s x6 x7)(vd:Al.isVar E s.d)(va:Al.isVar E s.a)(h:b.out.length<999500):
  Calls Tryz.prog 153 #[.pointer (some ⟨kb,0,none⟩),.pointer (some ⟨ks,0,none⟩)] w fun e w'=>e= .returned (.tuple #[])/\∃ foot',Maker w' base foot' bp C (b.app (Al.copyB E s.d.toNat s.a.toNat))/\Chg w w' foot foot':=by
 have hC:=hE.ok
 have hC0:=Chg.refl w foot
 have q0:=hC.q0
 have q1:=hC.q1
 have n0:=hC.n0
 have n1:=hC.n1
 have ed:=hE.place vd
 have ea:=hE.place va
 have p0:=hK0.p
 have s2_0:=hK0.s2
 go_enter Tryz.func153,Tryz.ntmps153
 go_wp2_with (first|(go_at_call 110;refine (load_makes C hC _ 15 9 s.a (by (try simp)<;> omega) va.1 (hE.lt va) _ _ _ _ hM0).mono ?_;rintro e w1 ⟨rfl,foot1,hM1,hC⟩;have hK1:=hK0.step hC;have hC1:=hC0.trans hC;clear hM0 hC0 hC hK0 p0 s2_0;have p1:=hK1.p;have s1_1:=hK1.s1))
 go_wp2_with (first|(go_at_call 152;refine (store_makes C hC _ 15 9 s.d (by (try simp)<;> omega) vd.1 (hE.lt vd) _ _ _ _ hM1).mono ?_;rintro e w2 ⟨rfl,foot2,hM2,hC⟩;have hK2:=hK1.step hC;have hC2:=hC1.trans hC;clear hM1 hC1 hC hK1 p1 s1_1))
 exact bodyPost_end (v:= .tuple #[]) (by simp [results,Tryz.results153,go_sem]) rfl ⟨rfl,_,by simpa [Mk.app_app,Al.ci,Al.ldC,Al.stC,ed,ea,Al.copyB] using hM2,hC2⟩
theorem add_body {C:MkC}{E:Al.Env}(hE:CE C E){w:World}{base bp kb ks:Nat}{foot:Nat->Prop}{b:Mk}{s:Al.Stmt}{x6 x7:Value}(hM0:Maker w base foot bp C b)(hK0:Cap w foot kb ks bp s x6 x7)(vd:Al.isVar E s.d)(va:Al.isVar E s.a)(vb:Al.isVar E s.b)(h:b.out.length<999500):
  Calls Tryz.prog 154 #[.pointer (some ⟨kb,0,none⟩),.pointer (some ⟨ks,0,none⟩)] w fun e w'=>e= .returned (.tuple #[])/\∃ foot',Maker w' base foot' bp C (b.app (Al.addB E s.d.toNat s.a.toNat s.b.toNat))/\Chg w w' foot foot':=by
 have hC:=hE.ok
 have hC0:=Chg.refl w foot
 have q0:=hC.q0
 have q1:=hC.q1
 have n0:=hC.n0
 have n1:=hC.n1
 have ed:=hE.place vd
 have ea:=hE.place va
 have eb:=hE.place vb
 have p0:=hK0.p
 have s2_0:=hK0.s2
 go_enter Tryz.func154,Tryz.ntmps154
 go_wp2_with (first|(go_at_call 110;refine (load_makes C hC _ 12 9 s.a (by (try simp)<;> omega) va.1 (hE.lt va) _ _ _ _ hM0).mono ?_;rintro e w1 ⟨rfl,foot1,hM1,hC⟩;have hK1:=hK0.step hC;have hC1:=hC0.trans hC;clear hM0 hC0 hC hK0 p0 s2_0;have p1:=hK1.p;have s3_1:=hK1.s3))
 go_wp2_with (first|(go_at_call 110;refine (load_makes C hC _ 13 9 s.b (by (try simp)<;> omega) vb.1 (hE.lt vb) _ _ _ _ hM1).mono ?_;rintro e w2 ⟨rfl,foot2,hM2,hC⟩;have hK2:=hK1.step hC;have hC2:=hC1.trans hC;clear hM1 hC1 hC hK1 p1 s3_1;have p2:=hK2.p;have c4_2:=hM2.cells.c4))
 go_still_tail 8,(by kernel_rfl)
 go_wp2_with (first|(go_at_call 112;refine (within_makes C _ (0) (_) ⟨3,15,12,13,0,0⟩ (by (try simp)<;> omega) _ _ _ _ hM2.drew).mono ?_;rintro e w3 ⟨rfl,foot3,hM3,hC⟩;have hK3:=hK2.drew.step hC;have hC3:=hC2.drew.trans hC;clear hM2 hC2 hC hK2 p2 c4_2;have p3:=hK3.p))
 go_wp2_with (first|(go_at_call 155;refine (cut_makes C hC _ 15 (by (try simp)<;> omega) _ _ _ _ hM3).mono ?_;rintro e w4 ⟨rfl,foot4,hM4,hC⟩;have hK4:=hK3.step hC;have hC4:=hC3.trans hC;clear hM3 hC3 hC hK3 p3;have p4:=hK4.p;have s1_4:=hK4.s1))
 go_wp2_with (first|(go_at_call 152;refine (store_makes C hC _ 15 9 s.d (by (try simp)<;> omega) vd.1 (hE.lt vd) _ _ _ _ hM4).mono ?_;rintro e w5 ⟨rfl,foot5,hM5,hC⟩;have hK5:=hK4.step hC;have hC5:=hC4.trans hC;clear hM4 hC4 hC hK4 p4 s1_4))
 exact bodyPost_end (v:= .tuple #[]) (by simp [results,Tryz.results154,go_sem]) rfl ⟨rfl,_,by simpa [Mk.app_app,Al.ci,Al.ldC,Al.stC,ed,ea,eb,Al.addB,hE.q,IntWalk.i64_in (2 * C.q) (by omega),IntWalk.i64_in (2 * C.q - 2) (by omega)] using hM5,hC5⟩
theorem mul_body {C:MkC}{E:Al.Env}(hE:CE C E){w:World}{base bp kb ks:Nat}{foot:Nat->Prop}{b:Mk}{s:Al.Stmt}{x6 x7:Value}(hM0:Maker w base foot bp C b)(hK0:Cap w foot kb ks bp s x6 x7)(vd:Al.isVar E s.d)(va:Al.isVar E s.a)(vb:Al.isVar E s.b)(h:b.out.length<999500):
  Calls Tryz.prog 157 #[.pointer (some ⟨kb,0,none⟩),.pointer (some ⟨ks,0,none⟩)] w fun e w'=>e= .returned (.tuple #[])/\∃ foot',Maker w' base foot' bp C (b.app (Al.mulB E s.d.toNat s.a.toNat s.b.toNat))/\Chg w w' foot foot':=by
 have hC:=hE.ok
 have hC0:=Chg.refl w foot
 have q0:=hC.q0
 have q1:=hC.q1
 have n0:=hC.n0
 have n1:=hC.n1
 have ed:=hE.place vd
 have ea:=hE.place va
 have eb:=hE.place vb
 have p0:=hK0.p
 have s2_0:=hK0.s2
 go_enter Tryz.func157,Tryz.ntmps157
 go_wp2_with (first|(go_at_call 110;refine (load_makes C hC _ 12 9 s.a (by (try simp)<;> omega) va.1 (hE.lt va) _ _ _ _ hM0).mono ?_;rintro e w1 ⟨rfl,foot1,hM1,hC⟩;have hK1:=hK0.step hC;have hC1:=hC0.trans hC;clear hM0 hC0 hC hK0 p0 s2_0;have p1:=hK1.p;have s3_1:=hK1.s3))
 go_wp2_with (first|(go_at_call 110;refine (load_makes C hC _ 13 9 s.b (by (try simp)<;> omega) vb.1 (hE.lt vb) _ _ _ _ hM1).mono ?_;rintro e w2 ⟨rfl,foot2,hM2,hC⟩;have hK2:=hK1.step hC;have hC2:=hC1.trans hC;clear hM1 hC1 hC hK1 p1 s3_1;have p2:=hK2.p))
 go_region_held3 (fun w'=>w'.cell? ⟨kb,0,none⟩=some (.pointer (some ⟨bp,0,none⟩))) (assumption) (first
  |(go_at_call 158;refine (square_makes C hC _ _ _ _ _ hM2.drew).mono ?_;rintro e w3 ⟨rfl,foot3,hM3,hC⟩;have hK3:=hK2.drew.step hC;have hC3:=hC2.drew.trans hC;clear hM2 hC2 hC hK2 p2;have p3:=hK3.p)
  |(go_at_call 112;refine (within_makes C _ (0) (_) ⟨5,15,12,13,0,0⟩ (by (try simp)<;> omega) _ _ _ _ hM3).mono ?_;rintro e w4 ⟨rfl,foot4,hM4,hC⟩;have hK4:=hK3.step hC;have hC4:=hC3.trans hC;clear hM3 hC3 hC hK3 p3;have p4:=hK4.p))
 go_wp2_with fail
 go_region_held3 (fun w'=>w'.cell? ⟨kb,0,none⟩=some (.pointer (some ⟨bp,0,none⟩))) (assumption) (first
  |(go_at_call 158;refine (square_makes C hC _ _ _ _ _ hM4.drew).mono ?_;rintro e w5 ⟨rfl,foot5,hM5,hC⟩;have hK5:=hK4.drew.step hC;have hC5:=hC4.drew.trans hC;clear hM4 hC4 hC hK4 p4;have p5:=hK5.p)
  |(go_at_call 159;refine (reduce_makes C hC _ 15 _ (by (try simp)<;> omega) _ _ _ _ hM5).mono ?_;rintro e w6 ⟨rfl,foot6,hM6,hC⟩;have hK6:=hK5.step hC;have hC6:=hC5.trans hC;clear hM5 hC5 hC hK5 p5;have p6:=hK6.p;have s1_6:=hK6.s1))
 go_wp2_with (first|(go_at_call 152;refine (store_makes C hC _ 15 9 s.d (by (try simp)<;> omega) vd.1 (hE.lt vd) _ _ _ _ hM6).mono ?_;rintro e w7 ⟨rfl,foot7,hM7,hC⟩;have hK7:=hK6.step hC;have hC7:=hC6.trans hC;clear hM6 hC6 hC hK6 p6 s1_6))
 exact bodyPost_end (v:= .tuple #[]) (by simp [results,Tryz.results157,go_sem]) rfl ⟨rfl,_,by simpa [Mk.app_app,Al.ci,Al.ldC,Al.stC,ed,ea,eb,Al.mulB,Al.sqr,hE.q] using hM7,hC7⟩
theorem sub_body {C:MkC}{E:Al.Env}(hE:CE C E){w:World}{base bp kb ks:Nat}{foot:Nat->Prop}{b:Mk}{s:Al.Stmt}{x6 x7:Value}(hM0:Maker w base foot bp C b)(hK0:Cap w foot kb ks bp s x6 x7)(vd:Al.isVar E s.d)(va:Al.isVar E s.a)(vb:Al.isVar E s.b)(h:b.out.length<999500):
  Calls Tryz.prog 156 #[.pointer (some ⟨kb,0,none⟩),.pointer (some ⟨ks,0,none⟩)] w fun e w'=>e= .returned (.tuple #[])/\∃ foot',Maker w' base foot' bp C (b.app (Al.subB E s.d.toNat s.a.toNat s.b.toNat))/\Chg w w' foot foot':=by
 have hC:=hE.ok
 have hC0:=Chg.refl w foot
 have q0:=hC.q0
 have q1:=hC.q1
 have n0:=hC.n0
 have n1:=hC.n1
 have ed:=hE.place vd
 have ea:=hE.place va
 have eb:=hE.place vb
 have p0:=hK0.p
 have s2_0:=hK0.s2
 go_enter Tryz.func156,Tryz.ntmps156
 go_wp2_with (first|(go_at_call 110;refine (load_makes C hC _ 12 9 s.a (by (try simp)<;> omega) va.1 (hE.lt va) _ _ _ _ hM0).mono ?_;rintro e w1 ⟨rfl,foot1,hM1,hC⟩;have hK1:=hK0.step hC;have hC1:=hC0.trans hC;clear hM0 hC0 hC hK0 p0 s2_0;have p1:=hK1.p;have s3_1:=hK1.s3))
 go_wp2_with (first|(go_at_call 110;refine (load_makes C hC _ 13 9 s.b (by (try simp)<;> omega) vb.1 (hE.lt vb) _ _ _ _ hM1).mono ?_;rintro e w2 ⟨rfl,foot2,hM2,hC⟩;have hK2:=hK1.step hC;have hC2:=hC1.trans hC;clear hM1 hC1 hC hK1 p1 s3_1;have p2:=hK2.p;have c4_2:=hM2.cells.c4))
 go_still_tail 12,(by kernel_rfl)
 go_wp2_with (first|(go_at_call 112;refine (within_makes C _ (_) (_) ⟨3,15,12,19,0,0⟩ (by (try simp)<;> omega) _ _ _ _ hM2.drew).mono ?_;rintro e w3 ⟨rfl,foot3,hM3,hC⟩;have hK3:=hK2.drew.step hC;have hC3:=hC2.drew.trans hC;clear hM2 hC2 hC hK2 p2 c4_2;have p3:=hK3.p;have c4_3:=hM3.cells.c4))
 go_still_tail 8,(by kernel_rfl)
 go_wp2_with (first|(go_at_call 112;refine (within_makes C _ (1) (_) ⟨4,15,15,13,0,0⟩ (by (try simp)<;> omega) _ _ _ _ hM3.drew).mono ?_;rintro e w4 ⟨rfl,foot4,hM4,hC⟩;have hK4:=hK3.drew.step hC;have hC4:=hC3.drew.trans hC;clear hM3 hC3 hC hK3 p3 c4_3;have p4:=hK4.p))
 go_wp2_with (first|(go_at_call 155;refine (cut_makes C hC _ 15 (by (try simp)<;> omega) _ _ _ _ hM4).mono ?_;rintro e w5 ⟨rfl,foot5,hM5,hC⟩;have hK5:=hK4.step hC;have hC5:=hC4.trans hC;clear hM4 hC4 hC hK4 p4;have p5:=hK5.p;have s1_5:=hK5.s1))
 go_wp2_with (first|(go_at_call 152;refine (store_makes C hC _ 15 9 s.d (by (try simp)<;> omega) vd.1 (hE.lt vd) _ _ _ _ hM5).mono ?_;rintro e w6 ⟨rfl,foot6,hM6,hC⟩;have hK6:=hK5.step hC;have hC6:=hC5.trans hC;clear hM5 hC5 hC hK5 p5 s1_5))
 exact bodyPost_end (v:= .tuple #[]) (by simp [results,Tryz.results156,go_sem]) rfl ⟨rfl,_,by simpa [Mk.app_app,Al.ci,Al.ldC,Al.stC,ed,ea,eb,Al.subB,hE.q,IntWalk.i64_in (2 * C.q) (by omega),IntWalk.i64_in (2 * C.q - 1) (by omega)] using hM6,hC6⟩
theorem scale_body {C:MkC}{E:Al.Env}(hE:CE C E){w:World}{base bp kb ks:Nat}{foot:Nat->Prop}{b:Mk}{s:Al.Stmt}{x6 x7:Value}(hM0:Maker w base foot bp C b)(hK0:Cap w foot kb ks bp s x6 x7)(vd:Al.isVar E s.d)(va:Al.isVar E s.a)(h:b.out.length<999500):
  Calls Tryz.prog 160 #[.pointer (some ⟨kb,0,none⟩),.pointer (some ⟨ks,0,none⟩)] w fun e w'=>e= .returned (.tuple #[])/\∃ foot',Maker w' base foot' bp C (b.app (Al.scaleB E s.d.toNat s.a.toNat))/\Chg w w' foot foot':=by
 have hC:=hE.ok
 have hC0:=Chg.refl w foot
 have q0:=hC.q0
 have q1:=hC.q1
 have n0:=hC.n0
 have n1:=hC.n1
 have ed:=hE.place vd
 have ea:=hE.place va
 have p0:=hK0.p
 have s2_0:=hK0.s2
 go_enter Tryz.func160,Tryz.ntmps160
 go_wp2_with (first|(go_at_call 110;refine (load_makes C hC _ 12 9 s.a (by (try simp)<;> omega) va.1 (hE.lt va) _ _ _ _ hM0).mono ?_;rintro e w1 ⟨rfl,foot1,hM1,hC⟩;have hK1:=hK0.step hC;have hC1:=hC0.trans hC;clear hM0 hC0 hC hK0 p0 s2_0;have p1:=hK1.p))
 go_region_held3 (fun w'=>w'.cell? ⟨kb,0,none⟩=some (.pointer (some ⟨bp,0,none⟩))) (assumption) (first
  |(go_at_call 158;refine (square_makes C hC _ _ _ _ _ hM1.drew).mono ?_;rintro e w2 ⟨rfl,foot2,hM2,hC⟩;have hK2:=hK1.drew.step hC;have hC2:=hC1.drew.trans hC;clear hM1 hC1 hC hK1 p1;have p2:=hK2.p)
  |(go_at_call 112;refine (within_makes C _ (0) (_) ⟨5,15,12,21,0,0⟩ (by (try simp)<;> omega) _ _ _ _ hM2).mono ?_;rintro e w3 ⟨rfl,foot3,hM3,hC⟩;have hK3:=hK2.step hC;have hC3:=hC2.trans hC;clear hM2 hC2 hC hK2 p2;have p3:=hK3.p))
 go_wp2_with fail
 go_region_held3 (fun w'=>w'.cell? ⟨kb,0,none⟩=some (.pointer (some ⟨bp,0,none⟩))) (assumption) (first
  |(go_at_call 158;refine (square_makes C hC _ _ _ _ _ hM3.drew).mono ?_;rintro e w4 ⟨rfl,foot4,hM4,hC⟩;have hK4:=hK3.drew.step hC;have hC4:=hC3.drew.trans hC;clear hM3 hC3 hC hK3 p3;have p4:=hK4.p)
  |(go_at_call 159;refine (reduce_makes C hC _ 15 _ (by (try simp)<;> omega) _ _ _ _ hM4).mono ?_;rintro e w5 ⟨rfl,foot5,hM5,hC⟩;have hK5:=hK4.step hC;have hC5:=hC4.trans hC;clear hM4 hC4 hC hK4 p4;have p5:=hK5.p;have s1_5:=hK5.s1))
 go_wp2_with (first|(go_at_call 152;refine (store_makes C hC _ 15 9 s.d (by (try simp)<;> omega) vd.1 (hE.lt vd) _ _ _ _ hM5).mono ?_;rintro e w6 ⟨rfl,foot6,hM6,hC⟩;have hK6:=hK5.step hC;have hC6:=hC5.trans hC;clear hM5 hC5 hC hK5 p5 s1_5))
 exact bodyPost_end (v:= .tuple #[]) (by simp [results,Tryz.results160,go_sem]) rfl ⟨rfl,_,by simpa [Mk.app_app,Al.ci,Al.ldC,Al.stC,ed,ea,Al.scaleB,Al.sqr,hE.q] using hM6,hC6⟩
theorem pick_body {C:MkC}{E:Al.Env}(hE:CE C E){w:World}{base bp kb ks:Nat}{foot:Nat->Prop}{b:Mk}{s:Al.Stmt}{x6 x7:Value}(hM0:Maker w base foot bp C b)(hK0:Cap w foot kb ks bp s x6 x7)(vd:Al.isVar E s.d)(va:Al.isVar E s.a)(vb:Al.isVar E s.b)(vc:Al.isVar E s.c)(h:b.out.length<999500):
  Calls Tryz.prog 170 #[.pointer (some ⟨kb,0,none⟩),.pointer (some ⟨ks,0,none⟩)] w fun e w'=>e= .returned (.tuple #[])/\∃ foot',Maker w' base foot' bp C (b.app (Al.pickB E s.d.toNat s.a.toNat s.b.toNat s.c.toNat))/\Chg w w' foot foot':=by
 have hC:=hE.ok
 have hC0:=Chg.refl w foot
 have q0:=hC.q0
 have q1:=hC.q1
 have n0:=hC.n0
 have n1:=hC.n1
 have ed:=hE.place vd
 have ea:=hE.place va
 have eb:=hE.place vb
 have ec:=hE.place vc
 have p0:=hK0.p
 have s2_0:=hK0.s2
 go_enter Tryz.func170,Tryz.ntmps170
 go_wp2_with (first|(go_at_call 110;refine (load_makes C hC _ 12 9 s.a (by (try simp)<;> omega) va.1 (hE.lt va) _ _ _ _ hM0).mono ?_;rintro e w1 ⟨rfl,foot1,hM1,hC⟩;have hK1:=hK0.step hC;have hC1:=hC0.trans hC;clear hM0 hC0 hC hK0 p0 s2_0;have p1:=hK1.p;have s3_1:=hK1.s3))
 go_wp2_with (first|(go_at_call 110;refine (load_makes C hC _ 13 9 s.b (by (try simp)<;> omega) vb.1 (hE.lt vb) _ _ _ _ hM1).mono ?_;rintro e w2 ⟨rfl,foot2,hM2,hC⟩;have hK2:=hK1.step hC;have hC2:=hC1.trans hC;clear hM1 hC1 hC hK1 p1 s3_1;have p2:=hK2.p;have s4_2:=hK2.s4))
 go_wp2_with (first|(go_at_call 110;refine (load_makes C hC _ 14 9 s.c (by (try simp)<;> omega) vc.1 (hE.lt vc) _ _ _ _ hM2).mono ?_;rintro e w3 ⟨rfl,foot3,hM3,hC⟩;have hK3:=hK2.step hC;have hC3:=hC2.trans hC;clear hM2 hC2 hC hK2 p2 s4_2;have p3:=hK3.p))
 go_wp2_with (first|(go_at_call 164;refine (two_makes C _ 7 12 12 1 (by (try simp)<;> omega) _ _ _ _ hM3).mono ?_;rintro e w4 ⟨rfl,foot4,hM4,hC⟩;have hK4:=hK3.step hC;have hC4:=hC3.trans hC;clear hM3 hC3 hC hK3 p3;have p4:=hK4.p))
 go_wp2_with (first|(go_at_call 168;refine (sel_makes C _ 15 12 13 14 (by (try simp)<;> omega) _ _ _ _ hM4).mono ?_;rintro e w5 ⟨rfl,foot5,hM5,hC⟩;have hK5:=hK4.step hC;have hC5:=hC4.trans hC;clear hM4 hC4 hC hK4 p4;have p5:=hK5.p;have s1_5:=hK5.s1))
 go_wp2_with (first|(go_at_call 152;refine (store_makes C hC _ 15 9 s.d (by (try simp)<;> omega) vd.1 (hE.lt vd) _ _ _ _ hM5).mono ?_;rintro e w6 ⟨rfl,foot6,hM6,hC⟩;have hK6:=hK5.step hC;have hC6:=hC5.trans hC;clear hM5 hC5 hC hK5 p5 s1_5))
 exact bodyPost_end (v:= .tuple #[]) (by simp [results,Tryz.results170,go_sem]) rfl ⟨rfl,_,by simpa [Mk.app_app,Al.ci,Al.ldC,Al.stC,ed,ea,eb,ec,Al.pickB] using hM6,hC6⟩
theorem norm_body {C:MkC}{E:Al.Env}(hE:CE C E){w:World}{base bp kb ks:Nat}{foot:Nat->Prop}{b:Mk}{s:Al.Stmt}{x6 x7:Value}(hM0:Maker w base foot bp C b)(hK0:Cap w foot kb ks bp s x6 x7)(va:Al.isVar E s.a)(h:b.out.length<999500):
  Calls Tryz.prog 171 #[.pointer (some ⟨kb,0,none⟩),.pointer (some ⟨ks,0,none⟩)] w fun e w'=>e= .returned (.tuple #[])/\∃ foot',Maker w' base foot' bp C (b.app (Al.normB E s.a.toNat))/\Chg w w' foot foot':=by
 have hC:=hE.ok
 have hC0:=Chg.refl w foot
 have q0:=hC.q0
 have q1:=hC.q1
 have n0:=hC.n0
 have n1:=hC.n1
 have ea:=hE.place va
 have p0:=hK0.p
 have s2_0:=hK0.s2
 go_enter Tryz.func171,Tryz.ntmps171
 go_wp2_with (first|(go_at_call 110;refine (load_makes C hC _ 12 9 s.a (by (try simp)<;> omega) va.1 (hE.lt va) _ _ _ _ hM0).mono ?_;rintro e w1 ⟨rfl,foot1,hM1,hC⟩;have hK1:=hK0.step hC;have hC1:=hC0.trans hC;clear hM0 hC0 hC hK0 p0 s2_0;have p1:=hK1.p;have c4_1:=hM1.cells.c4))
 go_still_tail 6,(by kernel_rfl)
 go_wp2_with (first|(go_at_call 112;refine (within_makes C _ (1) (_) ⟨4,13,19,12,0,0⟩ (by (try simp)<;> omega) _ _ _ _ hM1.drew).mono ?_;rintro e w2 ⟨rfl,foot2,hM2,hC⟩;have hK2:=hK1.drew.step hC;have hC2:=hC1.drew.trans hC;clear hM1 hC1 hC hK1 p1 c4_1;have p2:=hK2.p))
 go_wp2_with (first|(go_at_call 164;refine (two_makes C _ 13 16 12 13 (by (try simp)<;> omega) _ _ _ _ hM2).mono ?_;rintro e w3 ⟨rfl,foot3,hM3,hC⟩;have hK3:=hK2.step hC;have hC3:=hC2.trans hC;clear hM2 hC2 hC hK2 p2;have p3:=hK3.p))
 go_wp2_with (first|(go_at_call 168;refine (sel_makes C _ 12 16 12 13 (by (try simp)<;> omega) _ _ _ _ hM3).mono ?_;rintro e w4 ⟨rfl,foot4,hM4,hC⟩;have hK4:=hK3.step hC;have hC4:=hC3.trans hC;clear hM3 hC3 hC hK3 p3;have p4:=hK4.p))
 go_wp2_with (first|(go_at_call 164;refine (two_makes C _ 13 16 12 21 (by (try simp)<;> omega) _ _ _ _ hM4).mono ?_;rintro e w5 ⟨rfl,foot5,hM5,hC⟩;have hK5:=hK4.step hC;have hC5:=hC4.trans hC;clear hM4 hC4 hC hK4 p4;have p5:=hK5.p))
 go_wp2_with (first|(go_at_call 164;refine (two_makes C _ 7 22 22 16 (by (try simp)<;> omega) _ _ _ _ hM5).mono ?_;rintro e w6 ⟨rfl,foot6,hM6,hC⟩;have hK6:=hK5.step hC;have hC6:=hC5.trans hC;clear hM5 hC5 hC hK5 p5))
 exact bodyPost_end (v:= .tuple #[]) (by simp [results,Tryz.results171,go_sem]) rfl ⟨rfl,_,by simpa [Mk.app_app,Al.ci,Al.ldC,Al.stC,ea,Al.normB,hE.q] using hM6,hC6⟩
theorem expand_body {C:MkC}{E:Al.Env}(hE:CE C E){w:World}{base bp kb ks:Nat}{foot:Nat->Prop}{b:Mk}{s:Al.Stmt}{x6 x7:Value}(hM0:Maker w base foot bp C b)(hK0:Cap w foot kb ks bp s x6 x7){km:Nat}{nm:Int}(hBm0:IBox w foot km nm)(vd:Al.isVar E s.d)(va:Al.isVar E s.a)(hm:nm=Al.expandMost E s.k.toNat)(hk:((s.k.toNat:Nat):Int)=s.k)(h:b.out.length<999500):
  Calls Tryz.prog 169 #[.pointer (some ⟨kb,0,none⟩),.pointer (some ⟨ks,0,none⟩),.pointer (some ⟨km,0,none⟩)] w fun e w'=>e= .returned (.tuple #[])/\∃ foot',Maker w' base foot' bp C (b.app (Al.expandB E s.d.toNat s.a.toNat s.k.toNat))/\Chg w w' foot foot':=by
 have hC:=hE.ok
 have hC0:=Chg.refl w foot
 have q0:=hC.q0
 have q1:=hC.q1
 have n0:=hC.n0
 have n1:=hC.n1
 have ed:=hE.place vd
 have ea:=hE.place va
 have p0:=hK0.p
 have s2_0:=hK0.s2
 go_enter Tryz.func169,Tryz.ntmps169
 go_wp2_with (first|(go_at_call 110;refine (load_makes C hC _ 15 9 s.a (by (try simp)<;> omega) va.1 (hE.lt va) _ _ _ _ hM0).mono ?_;rintro e w1 ⟨rfl,foot1,hM1,hC⟩;have hK1:=hK0.step hC;have hC1:=hC0.trans hC;have hBm1:=hBm0.step hC;clear hBm0;clear hM0 hC0 hC hK0 p0 s2_0;have p1:=hK1.p))
 go_wp2_with (first|(go_at_call 164;refine (two_makes C _ 7 15 15 23 (by (try simp)<;> omega) _ _ _ _ hM1).mono ?_;rintro e w2 ⟨rfl,foot2,hM2,hC⟩;have hK2:=hK1.step hC;have hC2:=hC1.trans hC;have hBm2:=hBm1.step hC;clear hBm1;clear hM1 hC1 hC hK1 p1;have p2:=hK2.p;have im2:=hBm2.cell))
 go_wp2_with (first|(go_at_call 112;refine (within_makes C _ (0) (_) ⟨5,15,15,19,0,0⟩ (by (try simp)<;> omega) _ _ _ _ hM2).mono ?_;rintro e w3 ⟨rfl,foot3,hM3,hC⟩;have hK3:=hK2.step hC;have hC3:=hC2.trans hC;have hBm3:=hBm2.step hC;clear hBm2;clear hM2 hC2 hC hK2 p2 im2;have p3:=hK3.p;have im3:=hBm3.cell))
 go_wp2_with (first|(go_at_call 112;refine (within_makes C _ (0) (_) ⟨3,15,15,21,0,0⟩ (by (try simp)<;> omega) _ _ _ _ hM3).mono ?_;rintro e w4 ⟨rfl,foot4,hM4,hC⟩;have hK4:=hK3.step hC;have hC4:=hC3.trans hC;have hBm4:=hBm3.step hC;clear hBm3;clear hM3 hC3 hC hK3 p3 im3;have p4:=hK4.p;have s5_4:=hK4.s5))
 go_wp2_with (first|(go_at_call 77;refine (put_makes C _ ⟨11,15,15,0,0,s.k⟩ (by (try simp)<;> omega) _ _ _ _ hM4).mono ?_;rintro e w5 ⟨rfl,foot5,hM5,hC⟩;have hK5:=hK4.step hC;have hC5:=hC4.trans hC;have hBm5:=hBm4.step hC;clear hBm4;clear hM4 hC4 hC hK4 p4 s5_4;have p5:=hK5.p;have s1_5:=hK5.s1))
 go_wp2_with (first|(go_at_call 152;refine (store_makes C hC _ 15 9 s.d (by (try simp)<;> omega) vd.1 (hE.lt vd) _ _ _ _ hM5).mono ?_;rintro e w6 ⟨rfl,foot6,hM6,hC⟩;have hK6:=hK5.step hC;have hC6:=hC5.trans hC;have hBm6:=hBm5.step hC;clear hBm5;clear hM5 hC5 hC hK5 p5 s1_5))
 exact bodyPost_end (v:= .tuple #[]) (by simp [results,Tryz.results169,go_sem]) rfl ⟨rfl,_,by simpa [Mk.app_app,Al.ci,Al.ldC,Al.stC,ed,ea,Al.expandB,hm,hk] using hM6,hC6⟩
theorem round_body {C:MkC}{E:Al.Env}(hE:CE C E){w:World}{base bp kb ks:Nat}{foot:Nat->Prop}{b:Mk}{s:Al.Stmt}{x6 x7:Value}(hM0:Maker w base foot bp C b)(hK0:Cap w foot kb ks bp s x6 x7){km:Nat}{nm:Int}(hBm0:IBox w foot km nm)(vd:Al.isVar E s.d)(va:Al.isVar E s.a)(hm:nm=Al.roundMost E s.k.toNat)(hk:((s.k.toNat:Nat):Int)=s.k)(h:b.out.length<999500):
  Calls Tryz.prog 166 #[.pointer (some ⟨kb,0,none⟩),.pointer (some ⟨ks,0,none⟩),.pointer (some ⟨km,0,none⟩)] w fun e w'=>e= .returned (.tuple #[])/\∃ foot',Maker w' base foot' bp C (b.app (Al.roundB E s.d.toNat s.a.toNat s.k.toNat))/\Chg w w' foot foot':=by
 have hC:=hE.ok
 have hC0:=Chg.refl w foot
 have q0:=hC.q0
 have q1:=hC.q1
 have n0:=hC.n0
 have n1:=hC.n1
 have ed:=hE.place vd
 have ea:=hE.place va
 have p0:=hK0.p
 have s2_0:=hK0.s2
 go_enter Tryz.func166,Tryz.ntmps166
 go_wp2_with (first|(go_at_call 110;refine (load_makes C hC _ 15 9 s.a (by (try simp)<;> omega) va.1 (hE.lt va) _ _ _ _ hM0).mono ?_;rintro e w1 ⟨rfl,foot1,hM1,hC⟩;have hK1:=hK0.step hC;have hC1:=hC0.trans hC;have hBm1:=hBm0.step hC;clear hBm0;clear hM0 hC0 hC hK0 p0 s2_0;have p1:=hK1.p;have im1:=hBm1.cell;have s5_1:=hK1.s5))
 go_wp2_with (first|(go_at_call 112;refine (within_makes C _ (0) (_) ⟨10,15,15,0,0,s.k⟩ (by (try simp)<;> omega) _ _ _ _ hM1).mono ?_;rintro e w2 ⟨rfl,foot2,hM2,hC⟩;have hK2:=hK1.step hC;have hC2:=hC1.trans hC;have hBm2:=hBm1.step hC;clear hBm1;clear hM1 hC1 hC hK1 p1 im1 s5_1;have p2:=hK2.p;have im2:=hBm2.cell))
 go_wp2_with (first|(go_at_call 112;refine (within_makes C _ (0) (_) ⟨3,15,15,21,0,0⟩ (by (try simp)<;> omega) _ _ _ _ hM2).mono ?_;rintro e w3 ⟨rfl,foot3,hM3,hC⟩;have hK3:=hK2.step hC;have hC3:=hC2.trans hC;have hBm3:=hBm2.step hC;clear hBm2;clear hM2 hC2 hC hK2 p2 im2;have p3:=hK3.p;have im3:=hBm3.cell))
 go_wp2_with (first|(go_at_call 167;refine (quotient_makes C hC _ 15 _ (by (try simp)<;> omega) _ _ _ _ hM3).mono ?_;rintro e w4 ⟨rfl,foot4,hM4,hC⟩;have hK4:=hK3.step hC;have hC4:=hC3.trans hC;have hBm4:=hBm3.step hC;clear hBm3;clear hM3 hC3 hC hK3 p3 im3;have p4:=hK4.p))
 go_wp2_with (first|(go_at_call 164;refine (two_makes C _ 13 16 18 19 (by (try simp)<;> omega) _ _ _ _ hM4).mono ?_;rintro e w5 ⟨rfl,foot5,hM5,hC⟩;have hK5:=hK4.step hC;have hC5:=hC4.trans hC;have hBm5:=hBm4.step hC;clear hBm4;clear hM4 hC4 hC hK4 p4;have p5:=hK5.p;have im5:=hBm5.cell))
 go_wp2_with (first|(go_at_call 112;refine (within_makes C _ (0) (_) ⟨3,18,17,1,0,0⟩ (by (try simp)<;> omega) _ _ _ _ hM5).mono ?_;rintro e w6 ⟨rfl,foot6,hM6,hC⟩;have hK6:=hK5.step hC;have hC6:=hC5.trans hC;have hBm6:=hBm5.step hC;clear hBm5;clear hM5 hC5 hC hK5 p5 im5;have p6:=hK6.p))
 go_wp2_with (first|(go_at_call 168;refine (sel_makes C _ 15 16 17 18 (by (try simp)<;> omega) _ _ _ _ hM6).mono ?_;rintro e w7 ⟨rfl,foot7,hM7,hC⟩;have hK7:=hK6.step hC;have hC7:=hC6.trans hC;have hBm7:=hBm6.step hC;clear hBm6;clear hM6 hC6 hC hK6 p6;have p7:=hK7.p))
 go_wp2_with (first|(go_at_call 164;refine (two_makes C _ 7 15 15 23 (by (try simp)<;> omega) _ _ _ _ hM7).mono ?_;rintro e w8 ⟨rfl,foot8,hM8,hC⟩;have hK8:=hK7.step hC;have hC8:=hC7.trans hC;have hBm8:=hBm7.step hC;clear hBm7;clear hM7 hC7 hC hK7 p7;have p8:=hK8.p;have s1_8:=hK8.s1))
 go_wp2_with (first|(go_at_call 152;refine (store_makes C hC _ 15 9 s.d (by (try simp)<;> omega) vd.1 (hE.lt vd) _ _ _ _ hM8).mono ?_;rintro e w9 ⟨rfl,foot9,hM9,hC⟩;have hK9:=hK8.step hC;have hC9:=hC8.trans hC;have hBm9:=hBm8.step hC;clear hBm8;clear hM8 hC8 hC hK8 p8 s1_8))
 exact bodyPost_end (v:= .tuple #[]) (by simp [results,Tryz.results166,go_sem]) rfl ⟨rfl,_,by simpa [Mk.app_app,Al.ci,Al.ldC,Al.stC,ed,ea,Al.roundB,hm,hk,hE.q] using hM9,hC9⟩
end Go.Proofs.YtkplfaionpplaaaGreatDoor
