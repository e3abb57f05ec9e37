/- Part 8: B8, B9, B10, B11, B12. -/
import Derived.Test.YtkplfaionpplaaaGreatDoorK7
set_option maxRecDepth 100000
set_option maxHeartbeats 6400000
set_option linter.unusedVariables false
set_option linter.unusedSimpArgs false
namespace Go.Proofs.YtkplfaionpplaaaGreatDoor
open Go.RowKit Go.Proofs.YtkplfaionpplaaaGreatDoorW.PrintLast
theorem zero_makes {C:MkC}{E:Al.Env}(hE:CE C E)(b:Mk)(s:Al.Stmt)(x6 x7:Value)(vd:Al.isVar E s.d)(h:b.out.length<998000):Makes 113 [.agg (stmtV s x6 x7)] C b (b.app (Al.eachC E.n b.out.length (Al.zeroB E s.d.toNat))) (.tuple #[]):=by
 intro w base bp foot hM
 have hC:=hE.ok
 have q0:=hC.q0
 have q1:=hC.q1
 have n0:=hC.n0
 have n1:=hC.n1
 obtain⟨W,hW⟩:∃ W,W=(w.alloc (.cells #[.pointer (some ⟨bp,0,none⟩)] 91)).alloc (.cells #[.int .i64 s.op,.int .i64 s.d,.int .i64 s.a,.int .i64 s.b,.int .i64 s.c,.int .i64 s.k,x6,x7] 66):=⟨_,rfl⟩
 obtain⟨hM0,hC0,hK0⟩:Maker W base foot bp C b/\Chg w W foot foot/\Cap W foot w.heap.size (w.heap.size+1) bp s x6 x7:=by rw [hW];exact Cap.make hM s x6 x7
 have ed:=hE.place vd
 obtain⟨kb,hkb⟩:∃ kb,kb=w.heap.size:=⟨_,rfl⟩
 obtain⟨ks,hks⟩:∃ ks,ks=w.heap.size+1:=⟨_,rfl⟩
 go_enter Tryz.func113,Tryz.ntmps113
 unfold stmtV
 go_wp2_with fail
 rw [<-hW]
 simp only [<-hks] at hK0 ⊢
 simp only [<-hkb] at hK0 ⊢
 clear hW hkb hks
 have p0:=hK0.p
 go_wp2_with (first|(go_at_call 150;(refine (each_any hC hM0 (by (try simp)<;> omega) (by (try simp)<;> omega) 151 [.pointer (some ⟨kb,0,none⟩),.pointer (some ⟨ks,0,none⟩)] Tryz.func151 (by kernel_rfl) rfl (fun w f=>Cap w f kb ks bp s x6 x7) hK0 (fun _ _ _ _ h c=>h.step c) (fun w1 foot1 hM hK=>zero_body hE hM hK vd (by (try simp)<;> omega))).mono ?_);rintro e w1 ⟨rfl,foot1,hM1,hC⟩;have hK1:=hK0.step hC;have hC1:=hC0.trans hC;clear hM0 hC0 hC hK0))
 exact bodyPost_end (v:= .tuple #[]) (by simp [results,Tryz.results113,go_sem]) rfl ⟨rfl,_,by simpa [Mk.app_app,Al.ci,Al.eachC,hE.n,ed] using hM1,hC1⟩
theorem copied_makes {C:MkC}{E:Al.Env}(hE:CE C E)(b:Mk)(s:Al.Stmt)(x6 x7:Value)(vd:Al.isVar E s.d)(va:Al.isVar E s.a)(h:b.out.length<998000):Makes 114 [.agg (stmtV s x6 x7)] C b (b.app (Al.eachC E.n b.out.length (Al.copyB E s.d.toNat s.a.toNat))) (.tuple #[]):=by
 intro w base bp foot hM
 have hC:=hE.ok
 have q0:=hC.q0
 have q1:=hC.q1
 have n0:=hC.n0
 have n1:=hC.n1
 obtain⟨W,hW⟩:∃ W,W=(w.alloc (.cells #[.pointer (some ⟨bp,0,none⟩)] 91)).alloc (.cells #[.int .i64 s.op,.int .i64 s.d,.int .i64 s.a,.int .i64 s.b,.int .i64 s.c,.int .i64 s.k,x6,x7] 66):=⟨_,rfl⟩
 obtain⟨hM0,hC0,hK0⟩:Maker W base foot bp C b/\Chg w W foot foot/\Cap W foot w.heap.size (w.heap.size+1) bp s x6 x7:=by rw [hW];exact Cap.make hM s x6 x7
 have ed:=hE.place vd
 have ea:=hE.place va
 obtain⟨kb,hkb⟩:∃ kb,kb=w.heap.size:=⟨_,rfl⟩
 obtain⟨ks,hks⟩:∃ ks,ks=w.heap.size+1:=⟨_,rfl⟩
 go_enter Tryz.func114,Tryz.ntmps114
 unfold stmtV
 go_wp2_with fail
 rw [<-hW]
 simp only [<-hks] at hK0 ⊢
 simp only [<-hkb] at hK0 ⊢
 clear hW hkb hks
 have p0:=hK0.p
 go_wp2_with (first|(go_at_call 150;(refine (each_any hC hM0 (by (try simp)<;> omega) (by (try simp)<;> omega) 153 [.pointer (some ⟨kb,0,none⟩),.pointer (some ⟨ks,0,none⟩)] Tryz.func153 (by kernel_rfl) rfl (fun w f=>Cap w f kb ks bp s x6 x7) hK0 (fun _ _ _ _ h c=>h.step c) (fun w1 foot1 hM hK=>copied_body hE hM hK vd va (by (try simp)<;> omega))).mono ?_);rintro e w1 ⟨rfl,foot1,hM1,hC⟩;have hK1:=hK0.step hC;have hC1:=hC0.trans hC;clear hM0 hC0 hC hK0))
 exact bodyPost_end (v:= .tuple #[]) (by simp [results,Tryz.results114,go_sem]) rfl ⟨rfl,_,by simpa [Mk.app_app,Al.ci,Al.eachC,hE.n,ed,ea] using hM1,hC1⟩
theorem add_makes {C:MkC}{E:Al.Env}(hE:CE C E)(b:Mk)(s:Al.Stmt)(x6 x7:Value)(vd:Al.isVar E s.d)(va:Al.isVar E s.a)(vb:Al.isVar E s.b)(h:b.out.length<998000):Makes 115 [.agg (stmtV s x6 x7)] C b (b.app (Al.eachC E.n b.out.length (Al.addB E s.d.toNat s.a.toNat s.b.toNat))) (.tuple #[]):=by
 intro w base bp foot hM
 have hC:=hE.ok
 have q0:=hC.q0
 have q1:=hC.q1
 have n0:=hC.n0
 have n1:=hC.n1
 obtain⟨W,hW⟩:∃ W,W=(w.alloc (.cells #[.pointer (some ⟨bp,0,none⟩)] 91)).alloc (.cells #[.int .i64 s.op,.int .i64 s.d,.int .i64 s.a,.int .i64 s.b,.int .i64 s.c,.int .i64 s.k,x6,x7] 66):=⟨_,rfl⟩
 obtain⟨hM0,hC0,hK0⟩:Maker W base foot bp C b/\Chg w W foot foot/\Cap W foot w.heap.size (w.heap.size+1) bp s x6 x7:=by rw [hW];exact Cap.make hM s x6 x7
 have ed:=hE.place vd
 have ea:=hE.place va
 have eb:=hE.place vb
 obtain⟨kb,hkb⟩:∃ kb,kb=w.heap.size:=⟨_,rfl⟩
 obtain⟨ks,hks⟩:∃ ks,ks=w.heap.size+1:=⟨_,rfl⟩
 go_enter Tryz.func115,Tryz.ntmps115
 unfold stmtV
 go_wp2_with fail
 rw [<-hW]
 simp only [<-hks] at hK0 ⊢
 simp only [<-hkb] at hK0 ⊢
 clear hW hkb hks
 have p0:=hK0.p
 go_wp2_with (first|(go_at_call 150;(refine (each_any hC hM0 (by (try simp)<;> omega) (by (try simp)<;> omega) 154 [.pointer (some ⟨kb,0,none⟩),.pointer (some ⟨ks,0,none⟩)] Tryz.func154 (by kernel_rfl) rfl (fun w f=>Cap w f kb ks bp s x6 x7) hK0 (fun _ _ _ _ h c=>h.step c) (fun w1 foot1 hM hK=>add_body hE hM hK vd va vb (by (try simp)<;> omega))).mono ?_);rintro e w1 ⟨rfl,foot1,hM1,hC⟩;have hK1:=hK0.step hC;have hC1:=hC0.trans hC;clear hM0 hC0 hC hK0))
 exact bodyPost_end (v:= .tuple #[]) (by simp [results,Tryz.results115,go_sem]) rfl ⟨rfl,_,by simpa [Mk.app_app,Al.ci,Al.eachC,hE.n,ed,ea,eb] using hM1,hC1⟩
theorem sub_makes {C:MkC}{E:Al.Env}(hE:CE C E)(b:Mk)(s:Al.Stmt)(x6 x7:Value)(vd:Al.isVar E s.d)(va:Al.isVar E s.a)(vb:Al.isVar E s.b)(h:b.out.length<998000):Makes 116 [.agg (stmtV s x6 x7)] C b (b.app (Al.eachC E.n b.out.length (Al.subB E s.d.toNat s.a.toNat s.b.toNat))) (.tuple #[]):=by
 intro w base bp foot hM
 have hC:=hE.ok
 have q0:=hC.q0
 have q1:=hC.q1
 have n0:=hC.n0
 have n1:=hC.n1
 obtain⟨W,hW⟩:∃ W,W=(w.alloc (.cells #[.pointer (some ⟨bp,0,none⟩)] 91)).alloc (.cells #[.int .i64 s.op,.int .i64 s.d,.int .i64 s.a,.int .i64 s.b,.int .i64 s.c,.int .i64 s.k,x6,x7] 66):=⟨_,rfl⟩
 obtain⟨hM0,hC0,hK0⟩:Maker W base foot bp C b/\Chg w W foot foot/\Cap W foot w.heap.size (w.heap.size+1) bp s x6 x7:=by rw [hW];exact Cap.make hM s x6 x7
 have ed:=hE.place vd
 have ea:=hE.place va
 have eb:=hE.place vb
 obtain⟨kb,hkb⟩:∃ kb,kb=w.heap.size:=⟨_,rfl⟩
 obtain⟨ks,hks⟩:∃ ks,ks=w.heap.size+1:=⟨_,rfl⟩
 go_enter Tryz.func116,Tryz.ntmps116
 unfold stmtV
 go_wp2_with fail
 rw [<-hW]
 simp only [<-hks] at hK0 ⊢
 simp only [<-hkb] at hK0 ⊢
 clear hW hkb hks
 have p0:=hK0.p
 go_wp2_with (first|(go_at_call 150;(refine (each_any hC hM0 (by (try simp)<;> omega) (by (try simp)<;> omega) 156 [.pointer (some ⟨kb,0,none⟩),.pointer (some ⟨ks,0,none⟩)] Tryz.func156 (by kernel_rfl) rfl (fun w f=>Cap w f kb ks bp s x6 x7) hK0 (fun _ _ _ _ h c=>h.step c) (fun w1 foot1 hM hK=>sub_body hE hM hK vd va vb (by (try simp)<;> omega))).mono ?_);rintro e w1 ⟨rfl,foot1,hM1,hC⟩;have hK1:=hK0.step hC;have hC1:=hC0.trans hC;clear hM0 hC0 hC hK0))
 exact bodyPost_end (v:= .tuple #[]) (by simp [results,Tryz.results116,go_sem]) rfl ⟨rfl,_,by simpa [Mk.app_app,Al.ci,Al.eachC,hE.n,ed,ea,eb] using hM1,hC1⟩
theorem mul_makes {C:MkC}{E:Al.Env}(hE:CE C E)(b:Mk)(s:Al.Stmt)(x6 x7:Value)(vd:Al.isVar E s.d)(va:Al.isVar E s.a)(vb:Al.isVar E s.b)(h:b.out.length<998000):Makes 117 [.agg (stmtV s x6 x7)] C b (b.app (Al.eachC E.n b.out.length (Al.mulB E s.d.toNat s.a.toNat s.b.toNat))) (.tuple #[]):=by
 intro w base bp foot hM
 have hC:=hE.ok
 have q0:=hC.q0
 have q1:=hC.q1
 have n0:=hC.n0
 have n1:=hC.n1
 obtain⟨W,hW⟩:∃ W,W=(w.alloc (.cells #[.pointer (some ⟨bp,0,none⟩)] 91)).alloc (.cells #[.int .i64 s.op,.int .i64 s.d,.int .i64 s.a,.int .i64 s.b,.int .i64 s.c,.int .i64 s.k,x6,x7] 66):=⟨_,rfl⟩
 obtain⟨hM0,hC0,hK0⟩:Maker W base foot bp C b/\Chg w W foot foot/\Cap W foot w.heap.size (w.heap.size+1) bp s x6 x7:=by rw [hW];exact Cap.make hM s x6 x7
 have ed:=hE.place vd
 have ea:=hE.place va
 have eb:=hE.place vb
 obtain⟨kb,hkb⟩:∃ kb,kb=w.heap.size:=⟨_,rfl⟩
 obtain⟨ks,hks⟩:∃ ks,ks=w.heap.size+1:=⟨_,rfl⟩
 go_enter Tryz.func117,Tryz.ntmps117
 unfold stmtV
 go_wp2_with fail
 rw [<-hW]
 simp only [<-hks] at hK0 ⊢
 simp only [<-hkb] at hK0 ⊢
 clear hW hkb hks
 have p0:=hK0.p
 go_wp2_with (first|(go_at_call 150;(refine (each_any hC hM0 (by (try simp)<;> omega) (by (try simp)<;> omega) 157 [.pointer (some ⟨kb,0,none⟩),.pointer (some ⟨ks,0,none⟩)] Tryz.func157 (by kernel_rfl) rfl (fun w f=>Cap w f kb ks bp s x6 x7) hK0 (fun _ _ _ _ h c=>h.step c) (fun w1 foot1 hM hK=>mul_body hE hM hK vd va vb (by (try simp)<;> omega))).mono ?_);rintro e w1 ⟨rfl,foot1,hM1,hC⟩;have hK1:=hK0.step hC;have hC1:=hC0.trans hC;clear hM0 hC0 hC hK0))
 exact bodyPost_end (v:= .tuple #[]) (by simp [results,Tryz.results117,go_sem]) rfl ⟨rfl,_,by simpa [Mk.app_app,Al.ci,Al.eachC,hE.n,ed,ea,eb] using hM1,hC1⟩
theorem pick_makes {C:MkC}{E:Al.Env}(hE:CE C E)(b:Mk)(s:Al.Stmt)(x6 x7:Value)(vd:Al.isVar E s.d)(va:Al.isVar E s.a)(vb:Al.isVar E s.b)(vc:Al.isVar E s.c)(h:b.out.length<998000):Makes 122 [.agg (stmtV s x6 x7)] C b (b.app (Al.eachC E.n b.out.length (Al.pickB E s.d.toNat s.a.toNat s.b.toNat s.c.toNat))) (.tuple #[]):=by
 intro w base bp foot hM
 have hC:=hE.ok
 have q0:=hC.q0
 have q1:=hC.q1
 have n0:=hC.n0
 have n1:=hC.n1
 obtain⟨W,hW⟩:∃ W,W=(w.alloc (.cells #[.pointer (some ⟨bp,0,none⟩)] 91)).alloc (.cells #[.int .i64 s.op,.int .i64 s.d,.int .i64 s.a,.int .i64 s.b,.int .i64 s.c,.int .i64 s.k,x6,x7] 66):=⟨_,rfl⟩
 obtain⟨hM0,hC0,hK0⟩:Maker W base foot bp C b/\Chg w W foot foot/\Cap W foot w.heap.size (w.heap.size+1) bp s x6 x7:=by rw [hW];exact Cap.make hM s x6 x7
 have ed:=hE.place vd
 have ea:=hE.place va
 have eb:=hE.place vb
 have ec:=hE.place vc
 obtain⟨kb,hkb⟩:∃ kb,kb=w.heap.size:=⟨_,rfl⟩
 obtain⟨ks,hks⟩:∃ ks,ks=w.heap.size+1:=⟨_,rfl⟩
 go_enter Tryz.func122,Tryz.ntmps122
 unfold stmtV
 go_wp2_with fail
 rw [<-hW]
 simp only [<-hks] at hK0 ⊢
 simp only [<-hkb] at hK0 ⊢
 clear hW hkb hks
 have p0:=hK0.p
 go_wp2_with (first|(go_at_call 150;(refine (each_any hC hM0 (by (try simp)<;> omega) (by (try simp)<;> omega) 170 [.pointer (some ⟨kb,0,none⟩),.pointer (some ⟨ks,0,none⟩)] Tryz.func170 (by kernel_rfl) rfl (fun w f=>Cap w f kb ks bp s x6 x7) hK0 (fun _ _ _ _ h c=>h.step c) (fun w1 foot1 hM hK=>pick_body hE hM hK vd va vb vc (by (try simp)<;> omega))).mono ?_);rintro e w1 ⟨rfl,foot1,hM1,hC⟩;have hK1:=hK0.step hC;have hC1:=hC0.trans hC;clear hM0 hC0 hC hK0))
 exact bodyPost_end (v:= .tuple #[]) (by simp [results,Tryz.results122,go_sem]) rfl ⟨rfl,_,by simpa [Mk.app_app,Al.ci,Al.eachC,hE.n,ed,ea,eb,ec] using hM1,hC1⟩
theorem scale_makes {C:MkC}{E:Al.Env}(hE:CE C E)(b:Mk)(s:Al.Stmt)(x6 x7:Value)(vd:Al.isVar E s.d)(va:Al.isVar E s.a)(h:b.out.length<998000):Makes 118 [.agg (stmtV s x6 x7)] C b (b.app (Al.ci 1 21 0 0 0 s.k :: Al.eachC E.n (b.out.length+1) (Al.scaleB E s.d.toNat s.a.toNat))) (.tuple #[]):=by
 intro w base bp foot hM
 have hC:=hE.ok
 have q0:=hC.q0
 have q1:=hC.q1
 have n0:=hC.n0
 have n1:=hC.n1
 obtain⟨W,hW⟩:∃ W,W=(w.alloc (.cells #[.pointer (some ⟨bp,0,none⟩)] 91)).alloc (.cells #[.int .i64 s.op,.int .i64 s.d,.int .i64 s.a,.int .i64 s.b,.int .i64 s.c,.int .i64 s.k,x6,x7] 66):=⟨_,rfl⟩
 obtain⟨hM0,hC0,hK0⟩:Maker W base foot bp C b/\Chg w W foot foot/\Cap W foot w.heap.size (w.heap.size+1) bp s x6 x7:=by rw [hW];exact Cap.make hM s x6 x7
 have ed:=hE.place vd
 have ea:=hE.place va
 obtain⟨kb,hkb⟩:∃ kb,kb=w.heap.size:=⟨_,rfl⟩
 obtain⟨ks,hks⟩:∃ ks,ks=w.heap.size+1:=⟨_,rfl⟩
 go_enter Tryz.func118,Tryz.ntmps118
 unfold stmtV
 go_wp2_with fail
 rw [<-hW]
 simp only [<-hks] at hK0 ⊢
 simp only [<-hkb] at hK0 ⊢
 clear hW hkb hks
 have p0:=hK0.p
 have s5_0:=hK0.s5
 go_wp2_with (first|(go_at_call 72;refine (constant_makes C _ 21 s.k (by (try simp)<;> omega) _ _ _ _ hM0).mono ?_;rintro e w1 ⟨rfl,foot1,hM1,hC⟩;have hK1:=hK0.step hC;have hC1:=hC0.trans hC;clear hM0 hC0 hC hK0 p0 s5_0;have p1:=hK1.p))
 go_wp2_with (first|(go_at_call 150;(refine (each_any hC hM1 (by (try simp)<;> omega) (by (try simp)<;> omega) 160 [.pointer (some ⟨kb,0,none⟩),.pointer (some ⟨ks,0,none⟩)] Tryz.func160 (by kernel_rfl) rfl (fun w f=>Cap w f kb ks bp s x6 x7) hK1 (fun _ _ _ _ h c=>h.step c) (fun w1 foot1 hM hK=>scale_body hE hM hK vd va (by (try simp)<;> omega))).mono ?_);rintro e w2 ⟨rfl,foot2,hM2,hC⟩;have hK2:=hK1.step hC;have hC2:=hC1.trans hC;clear hM1 hC1 hC hK1))
 exact bodyPost_end (v:= .tuple #[]) (by simp [results,Tryz.results118,go_sem]) rfl ⟨rfl,_,by simpa [Mk.app_app,Al.ci,Al.eachC,hE.n,ed,ea] using hM2,hC2⟩
theorem norm_makes {C:MkC}{E:Al.Env}(hE:CE C E)(b:Mk)(s:Al.Stmt)(x6 x7:Value)(vd:Al.isVar E s.d)(va:Al.isVar E s.a)(h:b.out.length<997000):Makes 123 [.agg (stmtV s x6 x7)] C b (b.app (Al.ci 1 21 0 0 0 s.k :: Al.ci 1 22 0 0 0 1 :: (Al.eachC E.n (b.out.length+2) (Al.normB E s.a.toNat)++(Al.eachC E.n (b.out.length+12) (Al.zeroB E s.d.toNat)++[Al.ci 16 0 0 22 0 (E.place s.d.toNat:Nat)])))) (.tuple #[]):=by
 intro w base bp foot hM
 have hC:=hE.ok
 have q0:=hC.q0
 have q1:=hC.q1
 have n0:=hC.n0
 have n1:=hC.n1
 obtain⟨W,hW⟩:∃ W,W=(w.alloc (.cells #[.pointer (some ⟨bp,0,none⟩)] 91)).alloc (.cells #[.int .i64 s.op,.int .i64 s.d,.int .i64 s.a,.int .i64 s.b,.int .i64 s.c,.int .i64 s.k,x6,x7] 66):=⟨_,rfl⟩
 obtain⟨hM0,hC0,hK0⟩:Maker W base foot bp C b/\Chg w W foot foot/\Cap W foot w.heap.size (w.heap.size+1) bp s x6 x7:=by rw [hW];exact Cap.make hM s x6 x7
 have ed:=hE.place vd
 have ea:=hE.place va
 obtain⟨kb,hkb⟩:∃ kb,kb=w.heap.size:=⟨_,rfl⟩
 obtain⟨ks,hks⟩:∃ ks,ks=w.heap.size+1:=⟨_,rfl⟩
 go_enter Tryz.func123,Tryz.ntmps123
 unfold stmtV
 go_wp2_with fail
 rw [<-hW]
 simp only [<-hks] at hK0 ⊢
 simp only [<-hkb] at hK0 ⊢
 clear hW hkb hks
 have p0:=hK0.p
 have s5_0:=hK0.s5
 go_wp2_with (first|(go_at_call 72;refine (constant_makes C _ 21 s.k (by (try simp)<;> omega) _ _ _ _ hM0).mono ?_;rintro e w1 ⟨rfl,foot1,hM1,hC⟩;have hK1:=hK0.step hC;have hC1:=hC0.trans hC;clear hM0 hC0 hC hK0 p0 s5_0;have p1:=hK1.p))
 go_wp2_with (first|(go_at_call 72;refine (constant_makes C _ 22 1 (by (try simp)<;> omega) _ _ _ _ hM1).mono ?_;rintro e w2 ⟨rfl,foot2,hM2,hC⟩;have hK2:=hK1.step hC;have hC2:=hC1.trans hC;clear hM1 hC1 hC hK1 p1;have p2:=hK2.p))
 go_wp2_with (first|(go_at_call 150;(refine (each_any hC hM2 (by (try simp)<;> omega) (by (try simp)<;> omega) 171 [.pointer (some ⟨kb,0,none⟩),.pointer (some ⟨ks,0,none⟩)] Tryz.func171 (by kernel_rfl) rfl (fun w f=>Cap w f kb ks bp s x6 x7) hK2 (fun _ _ _ _ h c=>h.step c) (fun w1 foot1 hM hK=>norm_body hE hM hK va (by (try simp)<;> omega))).mono ?_);rintro e w3 ⟨rfl,foot3,hM3,hC⟩;have hK3:=hK2.step hC;have hC3:=hC2.trans hC;clear hM2 hC2 hC hK2;have p3:=hK3.p;have s0_3:=hK3.s0;have s1_3:=hK3.s1;have s2_3:=hK3.s2;have s3_3:=hK3.s3;have s4_3:=hK3.s4;have s5_3:=hK3.s5;have s6_3:=hK3.s6;have s7_3:=hK3.s7))
 go_wp2_with (first|(go_at_call 113;refine (zero_makes hE _ s x6 x7 vd (by (try simp)<;> omega) _ _ _ _ hM3).mono ?_;rintro e w4 ⟨rfl,foot4,hM4,hC⟩;have hK4:=hK3.step hC;have hC4:=hC3.trans hC;clear hM3 hC3 hC hK3 p3 s0_3 s1_3 s2_3 s3_3 s4_3 s5_3 s6_3 s7_3;have p4:=hK4.p;have s1_4:=hK4.s1))
 go_wp2_with (first|(go_at_call 152;refine (store_makes C hC _ 22 0 s.d (by (try simp)<;> omega) vd.1 (hE.lt vd) _ _ _ _ hM4).mono ?_;rintro e w5 ⟨rfl,foot5,hM5,hC⟩;have hK5:=hK4.step hC;have hC5:=hC4.trans hC;clear hM4 hC4 hC hK4 p4 s1_4))
 exact bodyPost_end (v:= .tuple #[]) (by simp [results,Tryz.results123,go_sem]) rfl ⟨rfl,_,by simpa [Mk.app_app,Al.ci,Al.eachC,hE.n,ed,ea] using hM5,hC5⟩
theorem expand_makes {C:MkC}{E:Al.Env}(hE:CE C E)(b:Mk)(s:Al.Stmt)(x6 x7:Value)(vd:Al.isVar E s.d)(va:Al.isVar E s.a)(hk:1<=s.k/\s.k<=30/\(2:Int) ^ s.k.toNat<E.q)(h:b.out.length<998000):Makes 121 [.agg (stmtV s x6 x7)] C b (b.app (Al.ci 1 21 0 0 0 (2 ^ (s.k.toNat - 1)) :: Al.ci 1 23 0 0 0 (2 ^ s.k.toNat - 1) :: Al.eachC E.n (b.out.length+2) (Al.expandB E s.d.toNat s.a.toNat s.k.toNat))) (.tuple #[]):=by
 intro w base bp foot hM
 have hC:=hE.ok
 have q0:=hC.q0
 have q1:=hC.q1
 have n0:=hC.n0
 have n1:=hC.n1
 obtain⟨W,hW⟩:∃ W,W=(w.alloc (.cells #[.pointer (some ⟨bp,0,none⟩)] 91)).alloc (.cells #[.int .i64 s.op,.int .i64 s.d,.int .i64 s.a,.int .i64 s.b,.int .i64 s.c,.int .i64 s.k,x6,x7] 66):=⟨_,rfl⟩
 obtain⟨hM0,hC0,hK0⟩:Maker W base foot bp C b/\Chg w W foot foot/\Cap W foot w.heap.size (w.heap.size+1) bp s x6 x7:=by rw [hW];exact Cap.make hM s x6 x7
 have ed:=hE.place vd
 have ea:=hE.place va
 obtain⟨kb,hkb⟩:∃ kb,kb=w.heap.size:=⟨_,rfl⟩
 obtain⟨ks,hks⟩:∃ ks,ks=w.heap.size+1:=⟨_,rfl⟩
 go_enter Tryz.func121,Tryz.ntmps121
 unfold stmtV
 go_wp2_with fail
 rw [<-hW]
 simp only [<-hks] at hK0 ⊢
 simp only [<-hkb] at hK0 ⊢
 clear hW hkb hks
 have p0:=hK0.p
 have s50:=hK0.s5
 have c40:=hM0.cells.c4
 have z1:=World.new_ne _ _ p0
 have z2:=World.new_ne _ _ s50
 have z3:=World.new_ne _ _ c40
 go_region_held3 (fun w'=>w'.cell? ⟨kb,0,none⟩=some (.pointer (some ⟨bp,0,none⟩))/\w'.cell? ⟨ks,5,none⟩=some (.int .i64 s.k)/\w'.cell? ⟨bp,4,none⟩=some (.int .i64 C.q)) (go_keep) (fail)
 obtain⟨nm,hm⟩:∃ nm,nm=IntKind.i64.wrap (IntKind.i64.wrap (C.q * 2 ^ s.k.toNat)+IntKind.i64.wrap (2 ^ s.k.toNat)):=⟨_,rfl⟩
 rw [<-hm]
 obtain⟨hM1,hC1,hBm1⟩:=IBox.make hM0 nm
 have hK1:=hK0.step hC1
 replace hC1:=hC0.trans hC1
 obtain⟨W2,hW2⟩:∃ W2,W2=(W.alloc (.cells #[.int .i64 nm] 2)).drew:=⟨_,rfl⟩
 obtain⟨km,hkm⟩:∃ km,km=W.heap.size:=⟨_,rfl⟩
 rw [<-hW2] at hM1 hC1 hBm1 hK1 ⊢
 simp only [<-hkm] at hBm1 ⊢
 have p2:(1:Int)<=2 ^ s.k.toNat:=one_le_pow2 _
 have p3:(2:Int) ^ s.k.toNat<8388608:=by have:=hk.2.2;have:=hE.q;omega
 have p4:0<=C.q * 2 ^ s.k.toNat:=Int.mul_nonneg (by omega) (by omega)
 have p5:C.q * 2 ^ s.k.toNat<=8388608 * 8388608:=Int.mul_le_mul (by omega) (by omega) (by omega) (by omega)
 have p6:(1:Int)<=2 ^ (s.k.toNat - 1):=one_le_pow2 _
 have p7:(2:Int) ^ s.k.toNat=2 * 2 ^ (s.k.toNat - 1):=by rw [show s.k.toNat=(s.k.toNat - 1)+1 by omega,Int.pow_succ];simp;omega
 have p8:(2:Int) ^ (s.k.toNat - 1)<8388608:=by rw [p7] at p3;omega
 clear p7
 have hm2:nm=Al.expandMost E s.k.toNat:=by
  rw [hm,IntWalk.i64_in (C.q * 2 ^ s.k.toNat) (by omega),IntWalk.i64_in (2 ^ s.k.toNat) (by omega),IntWalk.i64_in _ (by omega),Al.expandMost,hE.q]
 have k1:((s.k.toNat:Nat):Int)=s.k:=by omega
 obtain⟨ka,kc,kd⟩:=hk
 have kw:IntKind.i64.wrap (s.k - 1)=s.k - 1:=IntWalk.i64_in _ (by omega)
 have kn:¬(s.k - 1<0):=by omega
 have kn2:¬(s.k<1):=by omega
 have kn3:(0:Int)<=s.k - 1:=by omega
 have kt:(s.k - 1).toNat=s.k.toNat - 1:=by omega
 clear hW2 hkm hm hM0 hC0 hK0 p0 s50 c40 z1 z2 z3
 have p1:=hK1.p
 have s5_1:=hK1.s5
 go_wp2_with fail
 go_still_tail 5,(by kernel_rfl)
 go_wp2_with (first|(go_at_call 72;refine (constant_makes C _ 21 _ (by (try simp)<;> omega) _ _ _ _ hM1.drew).mono ?_;rintro e w2 ⟨rfl,foot2,hM2,hC⟩;have hK2:=hK1.drew.step hC;have hC2:=hC1.drew.trans hC;have hBm2:=hBm1.drew.step hC;clear hBm1;clear hM1 hC1 hC hK1 p1 s5_1;have p2:=hK2.p;have s5_2:=hK2.s5))
 go_still_tail 5,(by kernel_rfl)
 go_wp2_with (first|(go_at_call 72;refine (constant_makes C _ 23 _ (by (try simp)<;> omega) _ _ _ _ hM2.drew).mono ?_;rintro e w3 ⟨rfl,foot3,hM3,hC⟩;have hK3:=hK2.drew.step hC;have hC3:=hC2.drew.trans hC;have hBm3:=hBm2.drew.step hC;clear hBm2;clear hM2 hC2 hC hK2 p2 s5_2;have p3:=hK3.p))
 go_wp2_with (first|(go_at_call 150;refine (each_any hC hM3 (by (try simp)<;> omega) (by (try simp)<;> omega) 169 [.pointer (some ⟨kb,0,none⟩),.pointer (some ⟨ks,0,none⟩),.pointer (some ⟨km,0,none⟩)] Tryz.func169 (by kernel_rfl) rfl (fun w f=>Cap w f kb ks bp s x6 x7/\IBox w f km nm) ⟨hK3,hBm3⟩ (fun _ _ _ _ h c=>⟨h.1.step c,h.2.step c⟩) (fun w1 foot1 hM hK=>expand_body hE hM hK.1 hK.2 vd va hm2 k1 (by (try simp)<;> omega))).mono ?_;rintro e w4 ⟨rfl,foot4,hM4,hC⟩;have hK4:=hK3.step hC;have hC4:=hC3.trans hC;clear hM3 hC3 hC hK3))
 exact bodyPost_end (v:= .tuple #[]) (by simp [results,Tryz.results121,go_sem]) rfl ⟨rfl,_,by simpa [Mk.app_app,Al.ci,Al.eachC,hE.n,ed,ea,kt,IntWalk.i64_in (2 ^ s.k.toNat) (by omega),IntWalk.i64_in (2 ^ (s.k.toNat - 1)) (by omega),IntWalk.i64_in (2 ^ s.k.toNat - 1) (by omega)] using hM4,hC4⟩
theorem round_makes {C:MkC}{E:Al.Env}(hE:CE C E)(b:Mk)(s:Al.Stmt)(x6 x7:Value)(vd:Al.isVar E s.d)(va:Al.isVar E s.a)(hk:1<=s.k/\s.k<=30/\(2:Int) ^ s.k.toNat<E.q)(h:b.out.length<998000):Makes 120 [.agg (stmtV s x6 x7)] C b (b.app (Al.ci 1 21 0 0 0 (((E.q:Int) - 1) / 2) :: Al.ci 1 23 0 0 0 (2 ^ s.k.toNat - 1) :: Al.eachC E.n (b.out.length+2) (Al.roundB E s.d.toNat s.a.toNat s.k.toNat))) (.tuple #[]):=by
 intro w base bp foot hM
 have hC:=hE.ok
 have q0:=hC.q0
 have q1:=hC.q1
 have n0:=hC.n0
 have n1:=hC.n1
 obtain⟨W,hW⟩:∃ W,W=(w.alloc (.cells #[.pointer (some ⟨bp,0,none⟩)] 91)).alloc (.cells #[.int .i64 s.op,.int .i64 s.d,.int .i64 s.a,.int .i64 s.b,.int .i64 s.c,.int .i64 s.k,x6,x7] 66):=⟨_,rfl⟩
 obtain⟨hM0,hC0,hK0⟩:Maker W base foot bp C b/\Chg w W foot foot/\Cap W foot w.heap.size (w.heap.size+1) bp s x6 x7:=by rw [hW];exact Cap.make hM s x6 x7
 have ed:=hE.place vd
 have ea:=hE.place va
 obtain⟨kb,hkb⟩:∃ kb,kb=w.heap.size:=⟨_,rfl⟩
 obtain⟨ks,hks⟩:∃ ks,ks=w.heap.size+1:=⟨_,rfl⟩
 have cW:=hM0.cells.c4
 rw [hW] at cW
 go_enter Tryz.func120,Tryz.ntmps120
 unfold stmtV
 go_wp2_with fail
 rw [<-hW]
 simp only [<-hks] at hK0 ⊢
 simp only [<-hkb] at hK0 ⊢
 clear hW hkb hks
 have p0:=hK0.p
 have s50:=hK0.s5
 have c40:=hM0.cells.c4
 have z1:=World.new_ne _ _ p0
 have z2:=World.new_ne _ _ s50
 have z3:=World.new_ne _ _ c40
 have e1:IntKind.i64.wrap (C.q - 1)=C.q - 1:=IntWalk.i64_in _ (by omega)
 have e2:(C.q - 1).tdiv 2=(C.q - 1) / 2:=Int.tdiv_eq_ediv_of_nonneg (by omega)
 have e3:IntKind.i64.wrap ((C.q - 1) / 2)=(C.q - 1) / 2:=IntWalk.i64_in _ (by omega)
 clear cW
 go_region_held3 (fun w'=>w'.cell? ⟨kb,0,none⟩=some (.pointer (some ⟨bp,0,none⟩))/\w'.cell? ⟨ks,5,none⟩=some (.int .i64 s.k)/\w'.cell? ⟨bp,4,none⟩=some (.int .i64 C.q)) (go_keep) (fail)
 obtain⟨nm,hm⟩:∃ nm,nm=IntKind.i64.wrap (IntKind.i64.wrap ((C.q - 1) * 2 ^ s.k.toNat)+(C.q - 1) / 2):=⟨_,rfl⟩
 rw [<-hm]
 obtain⟨hM1,hC1,hBm1⟩:=IBox.make hM0 nm
 have hK1:=hK0.step hC1
 replace hC1:=hC0.trans hC1
 obtain⟨W2,hW2⟩:∃ W2,W2=(W.alloc (.cells #[.int .i64 nm] 2)).drew:=⟨_,rfl⟩
 obtain⟨km,hkm⟩:∃ km,km=W.heap.size:=⟨_,rfl⟩
 rw [<-hW2] at hM1 hC1 hBm1 hK1 ⊢
 simp only [<-hkm] at hBm1 ⊢
 have p2:(1:Int)<=2 ^ s.k.toNat:=one_le_pow2 _
 have p3:(2:Int) ^ s.k.toNat<8388608:=by have:=hk.2.2;have:=hE.q;omega
 have p4:0<=(C.q - 1) * 2 ^ s.k.toNat:=Int.mul_nonneg (by omega) (by omega)
 have p5:(C.q - 1) * 2 ^ s.k.toNat<=8388608 * 8388608:=Int.mul_le_mul (by omega) (by omega) (by omega) (by omega)
 have hm2:nm=Al.roundMost E s.k.toNat:=by
  rw [hm,IntWalk.i64_in ((C.q - 1) * 2 ^ s.k.toNat) (by omega),IntWalk.i64_in _ (by omega),Al.roundMost,hE.q]
 have k1:((s.k.toNat:Nat):Int)=s.k:=by omega
 obtain⟨ka,kc,kd⟩:=hk
 clear hW2 hkm hm hM0 hC0 hK0 p0 s50 c40 z1 z2 z3
 have p1:=hK1.p
 have s5_1:=hK1.s5
 go_wp2_with fail
 go_wp2_with (first|(go_at_call 72;refine (constant_makes C _ 21 _ (by (try simp)<;> omega) _ _ _ _ hM1).mono ?_;rintro e w2 ⟨rfl,foot2,hM2,hC⟩;have hK2:=hK1.step hC;have hC2:=hC1.trans hC;have hBm2:=hBm1.step hC;clear hBm1;clear hM1 hC1 hC hK1 p1 s5_1;have p2:=hK2.p;have s5_2:=hK2.s5))
 go_still_tail 5,(by kernel_rfl)
 go_wp2_with (first|(go_at_call 72;refine (constant_makes C _ 23 _ (by (try simp)<;> omega) _ _ _ _ hM2.drew).mono ?_;rintro e w3 ⟨rfl,foot3,hM3,hC⟩;have hK3:=hK2.drew.step hC;have hC3:=hC2.drew.trans hC;have hBm3:=hBm2.drew.step hC;clear hBm2;clear hM2 hC2 hC hK2 p2 s5_2;have p3:=hK3.p))
 go_wp2_with (first|(go_at_call 150;refine (each_any hC hM3 (by (try simp)<;> omega) (by (try simp)<;> omega) 166 [.pointer (some ⟨kb,0,none⟩),.pointer (some ⟨ks,0,none⟩),.pointer (some ⟨km,0,none⟩)] Tryz.func166 (by kernel_rfl) rfl (fun w f=>Cap w f kb ks bp s x6 x7/\IBox w f km nm) ⟨hK3,hBm3⟩ (fun _ _ _ _ h c=>⟨h.1.step c,h.2.step c⟩) (fun w1 foot1 hM hK=>round_body hE hM hK.1 hK.2 vd va hm2 k1 (by (try simp)<;> omega))).mono ?_;rintro e w4 ⟨rfl,foot4,hM4,hC⟩;have hK4:=hK3.step hC;have hC4:=hC3.trans hC;clear hM3 hC3 hC hK3))
 exact bodyPost_end (v:= .tuple #[]) (by simp [results,Tryz.results120,go_sem]) rfl ⟨rfl,_,by simpa [Mk.app_app,Al.ci,Al.eachC,hE.n,ed,ea,hE.q,IntWalk.i64_in (2 ^ s.k.toNat) (by omega),IntWalk.i64_in (2 ^ s.k.toNat - 1) (by omega)] using hM4,hC4⟩
structure SBox (w:World)(f:Nat->Prop)(k:Nat)(s:Al.Stmt)(x6 x7:Value):Prop where
 h:w.heap[k]?=some (.cells (stmtV s x6 x7) 66 (0,0))
 n:¬f k
theorem SBox.step {w w':World}{f f':Nat->Prop}{k:Nat}{s:Al.Stmt}{x6 x7:Value}(h:SBox w f k s x6 x7)(c:Chg w w' f f'):SBox w' f' k s x6 x7:=⟨(c.blk h.h h.n).1,(c.blk h.h h.n).2⟩
theorem SBox.drew {w:World}{f:Nat->Prop}{k:Nat}{s:Al.Stmt}{x6 x7:Value}(h:SBox w f k s x6 x7):SBox w.drew f k s x6 x7:=⟨h.h,h.n⟩
theorem SBox.s2 {w:World}{f:Nat->Prop}{k:Nat}{s:Al.Stmt}{x6 x7:Value}(h:SBox w f k s x6 x7):w.cell? ⟨k,2,none⟩=some (.int .i64 s.a):=by rw [cell_blk h.h];rfl
theorem SBox.s3 {w:World}{f:Nat->Prop}{k:Nat}{s:Al.Stmt}{x6 x7:Value}(h:SBox w f k s x6 x7):w.cell? ⟨k,3,none⟩=some (.int .i64 s.b):=by rw [cell_blk h.h];rfl
theorem SBox.make {W:World}{base bp:Nat}{foot:Nat->Prop}{C:MkC}{b:Mk}(hM:Maker W base foot bp C b)(s:Al.Stmt)(x6 x7:Value):
  Maker (W.alloc (.cells (stmtV s x6 x7) 66)) base foot bp C b/\Chg W (W.alloc (.cells (stmtV s x6 x7) 66)) foot foot/\SBox (W.alloc (.cells (stmtV s x6 x7) 66)) foot W.heap.size s x6 x7:=by
 have hb:Below W.heap.size W (W.alloc (.cells (stmtV s x6 x7) 66)):=(Below.refl _ _).alloc (Nat.le_refl _) _
 refine⟨hM.below hb,Chg.of_below _ hb,heap_alloc_new W _,fun h=>?_⟩
 obtain⟨vo,vs,vt,vg,hblk,ho,hs,ht,hg,hne,hbb,hl,hfb,hfr,hf,hvt,hvg⟩:=hM
 have:=(hf _ h).2
 omega
@[simp] theorem termC_length (E:Al.Env) (a b:Nat) (op low:Int):(Al.termC E a b op low).length=5:=rfl
theorem term_makes {C:MkC}{E:Al.Env}(hE:CE C E)(b:Mk)(s:Al.Stmt)(x6 x7:Value)(op low:Int)(va:Al.isVar E s.a)(vb:Al.isVar E s.b)(h:b.out.length<999000):Makes 162 [.agg (stmtV s x6 x7),.int .i64 op,.int .i64 low] C b (b.app (Al.termC E s.a.toNat s.b.toNat op low)) (.tuple #[]):=by
 intro w base bp foot hM
 have hC:=hE.ok
 have q0:=hC.q0
 have q1:=hC.q1
 have n0:=hC.n0
 have n1:=hC.n1
 have ea:=hE.place va
 have eb:=hE.place vb
 have a1:0<=(C.q - 1) * (C.q - 1):=Int.mul_nonneg (by omega) (by omega)
 have a2:(C.q - 1) * (C.q - 1)<=8388607 * 8388607:=Int.mul_le_mul (by omega) (by omega) (by omega) (by omega)
 have a3:0<=C.n * ((C.q - 1) * (C.q - 1)):=Int.mul_nonneg (by omega) a1
 have a4:C.n * ((C.q - 1) * (C.q - 1))<=256 * (8388607 * 8388607):=Int.mul_le_mul n1 a2 a1 (by omega)
 have a5:IntKind.i64.wrap (C.n * ((C.q - 1) * (C.q - 1)))=C.n * ((C.q - 1) * (C.q - 1)):=IntWalk.i64_in _ (by omega)
 obtain⟨W,hW⟩:∃ W,W=w.alloc (.cells #[.int .i64 s.op,.int .i64 s.d,.int .i64 s.a,.int .i64 s.b,.int .i64 s.c,.int .i64 s.k,x6,x7] 66):=⟨_,rfl⟩
 obtain⟨hM0,hC0,hK0⟩:Maker W base foot bp C b/\Chg w W foot foot/\SBox W foot w.heap.size s x6 x7:=by rw [hW];exact SBox.make hM s x6 x7
 obtain⟨ks,hks⟩:∃ ks,ks=w.heap.size:=⟨_,rfl⟩
 go_enter Tryz.func162,Tryz.ntmps162
 unfold stmtV
 go_wp2_with fail
 rw [<-hW]
 simp only [<-hks] at hK0 ⊢
 clear hW hks
 have c5_0:=hM0.cells.c5
 go_region_held3 (fun w'=>w'.cell? ⟨bp,5,none⟩=some (.int .i64 C.n)) (assumption) (first
  |(go_at_call 158;refine (square_makes C hC _ _ _ _ _ hM0.drew).mono ?_;rintro e w1 ⟨rfl,foot1,hM1,hC⟩;have hK1:=hK0.drew.step hC;have hC1:=hC0.drew.trans hC;clear hM0 hC0 hC hK0 c5_0;have c5_1:=hM1.cells.c5;have s2_1:=hK1.s2))
 go_wp2_with fail
 go_wp2_with (first|(go_at_call 110;refine (load_makes C hC _ 12 11 s.a (by (try simp)<;> omega) va.1 (hE.lt va) _ _ _ _ hM1).mono ?_;rintro e w2 ⟨rfl,foot2,hM2,hC⟩;have hK2:=hK1.step hC;have hC2:=hC1.trans hC;clear hM1 hC1 hC hK1 c5_1 s2_1;have s3_2:=hK2.s3))
 go_wp2_with (first|(go_at_call 110;refine (load_makes C hC _ 13 14 s.b (by (try simp)<;> omega) vb.1 (hE.lt vb) _ _ _ _ hM2).mono ?_;rintro e w3 ⟨rfl,foot3,hM3,hC⟩;have hK3:=hK2.step hC;have hC3:=hC2.trans hC;clear hM2 hC2 hC hK2 s3_2))
 go_wp2_with (first|(go_at_call 158;refine (square_makes C hC _ _ _ _ _ hM3).mono ?_;rintro e w4 ⟨rfl,foot4,hM4,hC⟩;have hK4:=hK3.step hC;have hC4:=hC3.trans hC;clear hM3 hC3 hC hK3))
 go_wp2_with (first|(go_at_call 112;refine (within_makes C _ (0) (_) ⟨5,12,12,13,0,0⟩ (by (try simp)<;> omega) _ _ _ _ hM4).mono ?_;rintro e w5 ⟨rfl,foot5,hM5,hC⟩;have hK5:=hK4.step hC;have hC5:=hC4.trans hC;clear hM4 hC4 hC hK4))
 go_wp2_with (first|(go_at_call 112;refine (within_makes C _ (low) (_) ⟨op,22,22,12,0,0⟩ (by (try simp)<;> omega) _ _ _ _ hM5).mono ?_;rintro e w6 ⟨rfl,foot6,hM6,hC⟩;have hK6:=hK5.step hC;have hC6:=hC5.trans hC;clear hM5 hC5 hC hK5))
 go_wp2_with (first|(go_at_call 177;refine (up_makes C hC _ 11 (by (try simp)<;> omega) _ _ _ _ hM6).mono ?_;rintro e w7 ⟨rfl,foot7,hM7,hC⟩;have hK7:=hK6.step hC;have hC7:=hC6.trans hC;clear hM6 hC6 hC hK6))
 exact bodyPost_end (v:= .tuple #[]) (by simp [results,Tryz.results162,go_sem]) rfl ⟨rfl,_,by simpa [Mk.app_app,Al.ci,Al.termC,Al.sqr,Al.mostC,hE.q,hE.n,ea,eb] using hM7,hC7⟩
open Go.Proofs.YtkplfaionpplaaaGreatDoorW.PrintWords
theorem here_same {w:World}{base bp:Nat}{foot:Nat->Prop}{C:MkC}{b:Mk}(hM:Maker w base foot bp C b):
  Calls Tryz.prog 111 #[.pointer (some ⟨bp,0,none⟩)] w fun e w'=>e= .returned (.int .i64 b.out.length)/\w'=w:=by
 obtain⟨vo,vs,vt,vg,hblk,ho,hr⟩:=id hM
 have h6:w.cell? ⟨bp,6,none⟩=some vo:=by rw [cell_blk hblk];rfl
 obtain⟨a,cap,rfl⟩:∃ a cap,vo= .slice a b.out.length cap:=by
  rcases ho.2 with⟨h,h0⟩|⟨g,cap,cur,h,_⟩
  ·exact⟨none,0,by rw [h,h0]⟩
  ·exact⟨_,cap,h⟩
 go_enter Tryz.func111,Tryz.ntmps111
 go_wp2_with fail
 exact bodyPost_ret (v:= .int .i64 b.out.length) (by simp [results,Tryz.results111,go_sem]) rfl ⟨rfl,rfl⟩
theorem insts_len (l:List Al.Inst):(instsV l).length=l.length * 6:=by
 induction l with
 |nil=>rfl
 |cons s l ih=>simp only [instsV,List.flatMap_cons,List.length_append,List.length_cons] at ih ⊢;rw [ih];simp [instCells];omega
theorem insts_at (l:List Al.Inst)(k:Nat)(hk:k<l.length):(instsV l)[k * 6+5]?=some (.int .i64 (l[k]).k):=by
 induction l generalizing k with
 |nil=>simp at hk
 |cons s l ih=>
  cases k with
  |zero=>simp [instsV,instCells]
  |succ k=>
   have e:(k+1) * 6+5=6+(k * 6+5):=by omega
   simp only [instsV,List.flatMap_cons] at ih ⊢
   rw [e,List.getElem?_append_right (by simp [instCells])]
   have:=ih k (by simpa using hk)
   simpa [instCells] using this
theorem insts_set (l:List Al.Inst)(k:Nat)(hk:k<l.length)(v:Int):(instsV l).set (k * 6+5) (.int .i64 v)=instsV (l.modify k (Al.setK v)):=by
 induction l generalizing k with
 |nil=>simp at hk
 |cons s l ih=>
  cases k with
  |zero=>simp [instsV,instCells,Al.setK]
  |succ k=>
   have e:(k+1) * 6+5=6+(k * 6+5):=by omega
   simp only [instsV,List.flatMap_cons,List.modify_succ_cons] at ih ⊢
   rw [e,List.set_append_right _ _ (by simp [instCells])]
   have:=ih k (by simpa using hk)
   simp [instCells] at this ⊢
   exact this
def Apart (w w':World):Prop:=∀ (k:Nat) (c:Array Value) (t:TypeId) (f:Nat×Nat),w.heap[k]?=some (.cells c t f)->t≠97->w'.heap[k]?=some (.cells c t f)
theorem Maker.setK {w:World}{base bp:Nat}{foot:Nat->Prop}{C:MkC}{b:Mk}(hM:Maker w base foot bp C b)(k:Nat)(hk:k<b.out.length):
  ∃ g cap x,w.cell? ⟨bp,6,none⟩=some (.slice (some ⟨g,0,none⟩) b.out.length cap)/\w.cell? ⟨g,k * 6+5,none⟩=some (.int .i64 x)/\w.frozen? ⟨g,k * 6+5,none⟩=false/\g≠bp/\
   ∀ v,Maker (w.setCell ⟨g,k * 6+5,none⟩ (.int .i64 v)) base foot bp C { b with out:=b.out.modify k (Al.setK v)}/\Chg w (w.setCell ⟨g,k * 6+5,none⟩ (.int .i64 v)) foot foot/\Apart w (w.setCell ⟨g,k * 6+5,none⟩ (.int .i64 v)):=by
 obtain⟨vo,vs,vt,vg,hblk,ho,hs,ht,hg,hne,hbb,hl,hfb,hfr,hf,hvt,hvg⟩:=hM
 have hlen:=insts_len b.out
 have ho':=ho
 obtain⟨g,cap,rfl,hgb,hgl⟩:=ho'.form (by omega)
 have nb:g≠bp:=fun h=>own_ne_blk ho hblk (by decide) (by rw [h];rfl)
 refine⟨g,cap,(b.out[k]).k,by rw [cell_blk hblk];rfl,?_,ho.frozenAt _,nb,fun v=>?_⟩
 ·rw [ho.cellAt _ (by omega),insts_at _ _ hk]
 obtain⟨s1,g1⟩:=ho.stored (k * 6+5) (.int .i64 v)
 rw [insts_set _ _ hk] at s1
 have hk:∀ j,j≠g->(w.setCell ⟨g,k * 6+5,none⟩ (.int .i64 v)).heap[j]?=w.heap[j]?:=fun j hj=>set_blk_ne _ _ hj
 have own:∀ {e size v' n xs},w.ownsRow base e size v' n xs->e≠97->(w.setCell ⟨g,k * 6+5,none⟩ (.int .i64 v)).ownsRow base e size v' n xs:=fun h he=>
  own_of h fun j hv=>hk j fun e=>by
   subst e
   obtain⟨c,hc⟩:=own_type ho rfl
   obtain⟨c',hc'⟩:=own_type h hv
   rw [hc] at hc'
   cases hc'
   exact he rfl
 refine⟨⟨_,vs,vt,vg,(hk bp nb.symm).trans hblk,by simpa using s1,own hs (by decide),own ht (by decide),own hg (by decide),hne,hbb,by simpa using hl,hfb,hfr,fun j h=>by simpa [set_size] using hf j h,hvt,hvg⟩,⟨rfl,rfl,rfl,by simp [set_size],fun j _ hn=>hk j fun e=>hn (hfr j (.inl (by rw [e];rfl))),fun _ h=> .inl h⟩,?_⟩
 intro j c t f hj ht
 rw [hk j ?_]
 ·exact hj
 ·rintro rfl
  obtain⟨c',hc'⟩:=own_type ho rfl
  rw [hj] at hc'
  cases hc'
  exact ht rfl
def IntsAt (w:World)(v:Value)(l:List Int):Prop:=
 (v= .slice none 0 0/\l=[])\/∃ g cap cur,v= .slice (some ⟨g,0,none⟩) l.length cap/\w.heap[g]?=some (.cells cur 3 (0,0))/\∀ j (h:j<l.length),cur[j]?=some (.int .i64 l[j])
theorem IntsAt.apart {w w':World}{v:Value}{l:List Int}(h:IntsAt w v l)(ha:Apart w w'):IntsAt w' v l:=by
 rcases h with h|⟨g,cap,cur,h1,h2,h3⟩
 ·exact .inl h
 ·exact .inr ⟨g,cap,cur,h1,ha _ _ _ _ h2 (by decide),h3⟩
theorem Apart.refl (w:World):Apart w w:=fun _ _ _ _ h _=>h
theorem Apart.trans {a b c:World}(h:Apart a b)(k:Apart b c):Apart a c:=fun i x t f hi ht=>k i x t f (h i x t f hi ht) ht
theorem Apart.drew {a b:World}(h:Apart a b):Apart a b.drew:=h
theorem land_any {w:World}{base bp:Nat}{foot:Nat->Prop}{C:MkC}{b:Mk}(hM:Maker w base foot bp C b)(v:Value)(ks:List Nat)(hv:IntsAt w v (ks.map Int.ofNat))(hk:∀ k∈ks,k<b.out.length)(hlen:b.out.length<1000000)(hkl:ks.length<1000000):
  Calls Tryz.prog 78 #[.pointer (some ⟨bp,0,none⟩),v] w fun e w'=>e= .returned (.tuple #[])/\Maker w' base foot bp C { b with out:=Al.landL b.out ks b.out.length}/\Chg w w' foot foot:=by
 obtain⟨a,cap,rfl⟩:∃ a cap,v= .slice a ks.length cap:=by
  rcases hv with⟨h,h0⟩|⟨g,cap,cur,h,_⟩
  ·exact⟨none,0,by
      have:ks=[]:=by simpa using h0
      rw [h,this];rfl⟩
  ·exact⟨some ⟨g,0,none⟩,cap,by rw [h];simp⟩
 have HV:=Lib.hid hv
 have HM:=Lib.hid hM
 clear hv hM
 go_enter Tryz.func78,Tryz.ntmps78
 go_wp2_with fail
 go_loopg [5,8] (ks.length+1) (fun gk v5 v8 w'=>∃ j:Nat,v8= .int .i64 j/\j+gk=ks.length+1/\j<=ks.length/\Hid (Maker w' base foot bp C { b with out:=Al.landL b.out (ks.take j) b.out.length}/\Chg w w' foot foot/\Apart w w'))
 case atStart=>exact⟨0,rfl,by omega,by omega,show _/\_ from⟨HM,Chg.refl _ _,Apart.refl _⟩⟩
 case round=>
  obtain⟨j,rfl,hj,hj2,HI⟩:=hrel
  by_cases hjl:j<ks.length
  ·obtain⟨hM,hC,hA⟩:=show _/\_ from HI
   obtain⟨k1,rfl⟩:∃ k1,gk=k1+1:=⟨gk - 1,by omega⟩
   have hk2:ks[j]<(Al.landL b.out (ks.take j) b.out.length).length:=by rw [Al.landL_length];exact hk _ (List.getElem_mem _)
   obtain⟨g2,cap2,x,f6,fc,ff,fne,hset⟩:=hM.setK ks[j] hk2
   obtain⟨hM2,hC2,hA2⟩:=hset b.out.length
   have hh:=here_same hM.drew
   simp only [Al.landL_length] at f6 hh
   obtain⟨ag,he,hcell⟩:∃ ag,a=some ⟨ag,0,none⟩/\wr.cell? ⟨ag,j,none⟩=some (.int .i64 (ks[j]:Nat)):=by
    rcases (show IntsAt w _ _ from HV).apart hA with⟨h,h0⟩|⟨g,c,cur,h,h1,h2⟩
    ·simp at h0;subst h0;simp at hjl
    ·simp only [List.length_map,Value.slice.injEq,true_and] at h
     exact⟨g,h.1,by rw [cell_blk h1,h2 j (by simpa using hjl)];simp⟩
   subst he
   have t1:decide ((j:Int)<(ks.length:Int))=true:=by simp;omega
   have t2:(0:Int)<=(j:Int):=by omega
   have t3:(j:Int)<(ks.length:Int):=by omega
   have t4:(0:Int)<=(ks[j]:Nat):=by omega
   have t5:((ks[j]:Nat):Int)<(b.out.length:Int):=by have:=hk _ (List.getElem_mem hjl);omega
   have HH:=Lib.hid hh
   clear hh hM hset hk2
   obtain⟨kj,hkj⟩:∃ kj,kj=ks[j]:=⟨_,rfl⟩
   simp only [<-hkj] at fc ff hM2 hC2 hA2 hcell t4 t5
   replace hkj:=Lib.hid hkj
   go_wp2_with fail
   go_region_held3 (fun w'=>w'.cell? ⟨bp,6,none⟩=some (.slice (some ⟨g2,0,none⟩) b.out.length cap2)) (go_keep) (first
    |(go_at_call 111;refine Calls.mono HH ?_;rintro e w2 ⟨rfl,rfl⟩))
   obtain⟨W2,hW2⟩:∃ W2,W2=(wr.setCell ⟨g2,kj * 6+5,none⟩ (.int .i64 b.out.length)).drew:=⟨_,rfl⟩
   have hM3:=hM2.drew
   rw [<-hW2] at hM3
   have hC3:Chg w W2 foot foot:=by rw [hW2];exact (hC.trans hC2).drew
   have hA3:Apart w W2:=by rw [hW2];exact (hA.trans hA2).drew
   rw [<-hW2]
   clear hW2 hC hC2 hA hA2 HH hM2 f6 fc ff hcell
   have HM3:=Lib.hid hM3
   clear hM3
   go_wp2_with fail
   go_roundg k1
   case measure=>omega
   case rel=>
    refine⟨j+1,by simp,by omega,by omega,show _/\_ from⟨?_,hC3,hA3⟩⟩
    have h:=show Maker W2 base foot bp C _ from HM3
    have hkj':kj=ks[j]:=hkj
    have e:ks.take (j+1)=ks.take j++[kj]:=by rw [hkj',List.take_succ_eq_append_getElem hjl]
    rw [e,Al.landL_append]
    exact h
  ·have hje:j=ks.length:=by omega
   have t1:decide ((j:Int)<(ks.length:Int))=false:=by simp;omega
   go_wp2_with fail
   refine bodyPost_end (v:= .tuple #[]) (by simp [results,Tryz.results78,go_sem]) rfl ⟨rfl,?_⟩
   obtain⟨hM,hC,hA⟩:=show _/\_ from HI
   rw [hje,List.take_length] at hM
   exact⟨hM,hC⟩
end Go.Proofs.YtkplfaionpplaaaGreatDoor
namespace Go.Proofs.YtkplfaionpplaaaGreatDoor
open Go.RowKit Go.Proofs.YtkplfaionpplaaaGreatDoorW.PrintLast
theorem land_app (b:Mk)(l1 l2:List Al.CI)(i:Al.Inst)(sp:Al.Span)(v:Int):
  { b.app (l1++(i,sp) :: l2) with out:=Al.landL (b.app (l1++(i,sp) :: l2)).out [b.out.length+l1.length] v}=b.app (l1++({ i with k:=v},sp) :: l2):=by
 simp only [Mk.app,Al.landL,List.map_append,List.map_cons,Mk.mk.injEq,and_true,true_and]
 have e:∀ (A:List Al.Inst) (B:List Al.Inst) (f:Al.Inst->Al.Inst),(A++i :: B).modify A.length f=A++f i :: B:=by
  intro A B f
  induction A with
  |nil=>rfl
  |cons a A ih=>simp [List.modify_succ_cons,ih]
 have:=e (b.out++l1.map Prod.fst) (l2.map Prod.fst) (Al.setK v)
 simpa [Al.setK] using this
theorem land_app_makes (C:MkC)(b:Mk)(l1 l2:List Al.CI)(i:Al.Inst)(sp:Al.Span)(x:Int)(hx:x=(b.out.length+l1.length:Nat))(h:(b.app (l1++(i,sp) :: l2)).out.length<1000000):
  ∀ (w:World) (base bp:Nat) (foot:Nat->Prop),Maker w base foot bp C (b.app (l1++(i,sp) :: l2))->
   Calls Tryz.prog 78 #[.pointer (some ⟨bp,0,none⟩),.slice (some ⟨w.heap.size,0,none⟩) 1 1] (w.alloc (.cells #[.int .i64 x] 3)) fun e w'=>e= .returned (.tuple #[])/\
    ∃ foot',Maker w' base foot' bp C (b.app (l1++({ i with k:=(b.out.length+l1.length+1+l2.length:Nat)},sp) :: l2))/\Chg w w' foot foot':=by
 intro w base bp foot hM
 have hb:Below w.heap.size w (w.alloc (.cells #[.int .i64 x] 3)):=(Below.refl _ _).alloc (Nat.le_refl _) _
 have hI:IntsAt (w.alloc (.cells #[.int .i64 x] 3)) (.slice (some ⟨w.heap.size,0,none⟩) 1 1) ([b.out.length+l1.length].map Int.ofNat):=
  .inr ⟨w.heap.size,1,#[.int .i64 x],rfl,heap_alloc_new w _,fun j hj=>by
   have:j=0:=by simpa using hj
   subst this
   simp [hx]⟩
 refine (land_any (hM.below hb) _ _ hI (by simp<;> omega) h (by simp)).mono ?_
 rintro e w' ⟨rfl,hM',hC'⟩
 refine⟨rfl,foot,?_,(Chg.of_below foot hb).trans hC'⟩
 rw [land_app] at hM'
 have e:(b.app (l1++(i,sp) :: l2)).out.length=b.out.length+l1.length+1+l2.length:=by simp;omega
 rw [e] at hM'
 exact hM'
theorem conv_body {C:MkC}{E:Al.Env}(hE:CE C E){w:World}{base bp kb ks km ko:Nat}{foot:Nat->Prop}{b:Mk}{s:Al.Stmt}{x6 x7:Value}(hM0:Maker w base foot bp C b)(hK0:Cap w foot kb ks bp s x6 x7)(hBm0:IBox w foot km (Al.mostC E))(hBo0:IBox w foot ko (Al.overC E))(va:Al.isVar E s.a)(vb:Al.isVar E s.b)(h:b.out.length<998000)
  (m0:0<=Al.mostC E) (m1:Al.mostC E<=256 * 70368744177664) (o0:0<=Al.overC E) (o1:Al.overC E<=2 * (256 * 70368744177664)):
  Calls Tryz.prog 161 #[.pointer (some ⟨kb,0,none⟩),.pointer (some ⟨ks,0,none⟩),.pointer (some ⟨km,0,none⟩),.pointer (some ⟨ko,0,none⟩)] w fun e w'=>e= .returned (.tuple #[])/\∃ foot',Maker w' base foot' bp C (b.app (Al.convB E b.out.length s.a.toNat s.b.toNat))/\Chg w w' foot foot':=by
 have hC:=hE.ok
 have hC0:=Chg.refl w foot
 have q0:=hC.q0
 have q1:=hC.q1
 have n0:=hC.n0
 have n1:=hC.n1
 have ea:=hE.place va
 have eb:=hE.place vb
 have p_0:=hK0.p
 obtain⟨most,hmost⟩:∃ most,most=Al.mostC E:=⟨_,rfl⟩
 obtain⟨over,hover⟩:∃ over,over=Al.overC E:=⟨_,rfl⟩
 rw [<-hmost] at hBm0 m0 m1
 rw [<-hover] at hBo0 o0 o1
 have z1:IntKind.i64.wrap (-most)= -most:=IntWalk.i64_in _ (by omega)
 have z2:IntKind.i64.wrap (over+most)=over+most:=IntWalk.i64_in _ (by omega)
 go_enter Tryz.func161,Tryz.ntmps161
 go_wp2_with (first|(go_at_call 72;refine (constant_makes C _ 22 0 (by (try simp)<;> omega) _ _ _ _ hM0).mono ?_;rintro e w1 ⟨rfl,foot1,hM1,hC⟩;have hK1:=hK0.step hC;have hBm1:=hBm0.step hC;have hBo1:=hBo0.step hC;have hC1:=hC0.trans hC;clear hM0 hC0 hC hK0 hBm0 hBo0 p_0;have p_1:=hK1.p))
 go_wp2_with (first|(go_at_call 72;refine (constant_makes C _ 11 0 (by (try simp)<;> omega) _ _ _ _ hM1).mono ?_;rintro e w2 ⟨rfl,foot2,hM2,hC⟩;have hK2:=hK1.step hC;have hBm2:=hBm1.step hC;have hBo2:=hBo1.step hC;have hC2:=hC1.trans hC;clear hM1 hC1 hC hK1 hBm1 hBo1 p_1;have p_2:=hK2.p))
 go_wp2_with (first|(go_at_call 77;refine (put_makes C _ ⟨2,14,9,0,0,0⟩ (by (try simp)<;> omega) _ _ _ _ hM2).mono ?_;rintro e w3 ⟨rfl,foot3,hM3,hC⟩;have hK3:=hK2.step hC;have hBm3:=hBm2.step hC;have hBo3:=hBo2.step hC;have hC3:=hC2.trans hC;clear hM2 hC2 hC hK2 hBm2 hBo2 p_2;have p_3:=hK3.p))
 go_wp2_with (first|(go_at_call 111;refine (here_makes C _ _ _ _ _ hM3).mono ?_;rintro e w4 ⟨rfl,foot4,hM4,hC⟩;have hK4:=hK3.step hC;have hBm4:=hBm3.step hC;have hBo4:=hBo3.step hC;have hC4:=hC3.trans hC;clear hM3 hC3 hC hK3 hBm3 hBo3 p_3;have p_4:=hK4.p;have s0_4:=hK4.s0;have s1_4:=hK4.s1;have s2_4:=hK4.s2;have s3_4:=hK4.s3;have s4_4:=hK4.s4;have s5_4:=hK4.s5;have s6_4:=hK4.s6;have s7_4:=hK4.s7))
 go_wp2_with (first|(go_at_call 162;refine (term_makes hE _ s x6 x7 (3) (0) va vb (by (try simp)<;> omega) _ _ _ _ hM4).mono ?_;rintro e w5 ⟨rfl,foot5,hM5,hC⟩;have hK5:=hK4.step hC;have hBm5:=hBm4.step hC;have hBo5:=hBo4.step hC;have hC5:=hC4.trans hC;clear hM4 hC4 hC hK4 hBm4 hBo4 p_4 s0_4 s1_4 s2_4 s3_4 s4_4 s5_4 s6_4 s7_4;have p_5:=hK5.p))
 go_wp2_with (first|(go_at_call 77;refine (put_makes C _ ⟨18,0,14,0,0,0⟩ (by (try simp)<;> omega) _ _ _ _ hM5).mono ?_;rintro e w6 ⟨rfl,foot6,hM6,hC⟩;have hK6:=hK5.step hC;have hBm6:=hBm5.step hC;have hBo6:=hBo5.step hC;have hC6:=hC5.trans hC;clear hM5 hC5 hC hK5 hBm5 hBo5 p_5;have p_6:=hK6.p))
 go_wp2_with (first|(go_at_call 163;refine (down_makes C hC _ 14 (by (try simp)<;> omega) _ _ _ _ hM6).mono ?_;rintro e w7 ⟨rfl,foot7,hM7,hC⟩;have hK7:=hK6.step hC;have hBm7:=hBm6.step hC;have hBo7:=hBo6.step hC;have hC7:=hC6.trans hC;clear hM6 hC6 hC hK6 hBm6 hBo6 p_6;have p_7:=hK7.p))
 go_wp2_with (first|(go_at_call 77;refine (put_makes C _ ⟨17,0,0,0,0,_⟩ (by (try simp)<;> omega) _ _ _ _ hM7).mono ?_;rintro e w8 ⟨rfl,foot8,hM8,hC⟩;have hK8:=hK7.step hC;have hBm8:=hBm7.step hC;have hBo8:=hBo7.step hC;have hC8:=hC7.trans hC;clear hM7 hC7 hC hK7 hBm7 hBo7 p_7;have p_8:=hK8.p))
 replace hM8:Maker w8 base foot8 bp C (b.app (([Al.ci 1 22 0 0 0 0,Al.ci 1 11 0 0 0 0,Al.ci 2 14 9 0 0 0]++Al.termC E s.a.toNat s.b.toNat 3 0)++(⟨18,0,14,0,0,0⟩,Al.allSpan) :: [Al.downC C.n 14,Al.ci 17 0 0 0 0 (b.out.length+3:Int)])):=by simpa [Mk.app_app,Al.ci,Int.add_assoc] using hM8
 go_wp2_with (first|(go_at_call 78;refine (land_app_makes C b ([Al.ci 1 22 0 0 0 0,Al.ci 1 11 0 0 0 0,Al.ci 2 14 9 0 0 0]++Al.termC E s.a.toNat s.b.toNat 3 0) [Al.downC C.n 14,Al.ci 17 0 0 0 0 (b.out.length+3:Int)] ⟨18,0,14,0,0,0⟩ Al.allSpan _ (by simp<;> omega) (by (try simp)<;> omega) _ _ _ _ hM8).mono ?_;rintro e w9 ⟨rfl,foot9,hM9,hC⟩;have hK9:=hK8.step hC;have hBm9:=hBm8.step hC;have hBo9:=hBo8.step hC;have hC9:=hC8.trans hC;clear hM8 hC8 hC hK8 hBm8 hBo8 p_8;have p_9:=hK9.p))
 go_wp2_with (first|(go_at_call 164;refine (two_makes C _ 13 16 11 10 (by (try simp)<;> omega) _ _ _ _ hM9).mono ?_;rintro e w10 ⟨rfl,foot10,hM10,hC⟩;have hK10:=hK9.step hC;have hBm10:=hBm9.step hC;have hBo10:=hBo9.step hC;have hC10:=hC9.trans hC;clear hM9 hC9 hC hK9 hBm9 hBo9 p_9;have p_10:=hK10.p))
 go_wp2_with (first|(go_at_call 77;refine (put_makes C _ ⟨18,0,16,0,0,0⟩ (by (try simp)<;> omega) _ _ _ _ hM10).mono ?_;rintro e w11 ⟨rfl,foot11,hM11,hC⟩;have hK11:=hK10.step hC;have hBm11:=hBm10.step hC;have hBo11:=hBo10.step hC;have hC11:=hC10.trans hC;clear hM10 hC10 hC hK10 hBm10 hBo10 p_10;have p_11:=hK11.p;have c5_11:=hM11.cells.c5))
 go_still_tail 6,(by kernel_rfl)
 go_wp2_with (first|(go_at_call 112;refine (within_makes C _ (0) (C.n) ⟨4,14,10,1,0,0⟩ (by (try simp)<;> omega) _ _ _ _ hM11.drew).mono ?_;rintro e w12 ⟨rfl,foot12,hM12,hC⟩;have hK12:=hK11.drew.step hC;have hBm12:=hBm11.drew.step hC;have hBo12:=hBo11.drew.step hC;have hC12:=hC11.drew.trans hC;clear hM11 hC11 hC hK11 hBm11 hBo11 p_11 c5_11;have p_12:=hK12.p))
 go_wp2_with (first|(go_at_call 111;refine (here_makes C _ _ _ _ _ hM12).mono ?_;rintro e w13 ⟨rfl,foot13,hM13,hC⟩;have hK13:=hK12.step hC;have hBm13:=hBm12.step hC;have hBo13:=hBo12.step hC;have hC13:=hC12.trans hC;clear hM12 hC12 hC hK12 hBm12 hBo12 p_12;have p_13:=hK13.p;have s0_13:=hK13.s0;have s1_13:=hK13.s1;have s2_13:=hK13.s2;have s3_13:=hK13.s3;have s4_13:=hK13.s4;have s5_13:=hK13.s5;have s6_13:=hK13.s6;have s7_13:=hK13.s7;have m_13:=hBm13.cell))
 go_wp2_with (first|(go_at_call 162;refine (term_makes hE _ s x6 x7 (4) (_) va vb (by (try simp)<;> omega) _ _ _ _ hM13).mono ?_;rintro e w14 ⟨rfl,foot14,hM14,hC⟩;have hK14:=hK13.step hC;have hBm14:=hBm13.step hC;have hBo14:=hBo13.step hC;have hC14:=hC13.trans hC;clear hM13 hC13 hC hK13 hBm13 hBo13 p_13 s0_13 s1_13 s2_13 s3_13 s4_13 s5_13 s6_13 s7_13 m_13;have p_14:=hK14.p))
 go_wp2_with (first|(go_at_call 163;refine (down_makes C hC _ 14 (by (try simp)<;> omega) _ _ _ _ hM14).mono ?_;rintro e w15 ⟨rfl,foot15,hM15,hC⟩;have hK15:=hK14.step hC;have hBm15:=hBm14.step hC;have hBo15:=hBo14.step hC;have hC15:=hC14.trans hC;clear hM14 hC14 hC hK14 hBm14 hBo14 p_14;have p_15:=hK15.p))
 go_wp2_with (first|(go_at_call 164;refine (two_makes C _ 13 16 11 10 (by (try simp)<;> omega) _ _ _ _ hM15).mono ?_;rintro e w16 ⟨rfl,foot16,hM16,hC⟩;have hK16:=hK15.step hC;have hBm16:=hBm15.step hC;have hBo16:=hBo15.step hC;have hC16:=hC15.trans hC;clear hM15 hC15 hC hK15 hBm15 hBo15 p_15;have p_16:=hK16.p))
 go_wp2_with (first|(go_at_call 77;refine (put_makes C _ ⟨19,0,16,0,0,_⟩ (by (try simp)<;> omega) _ _ _ _ hM16).mono ?_;rintro e w17 ⟨rfl,foot17,hM17,hC⟩;have hK17:=hK16.step hC;have hBm17:=hBm16.step hC;have hBo17:=hBo16.step hC;have hC17:=hC16.trans hC;clear hM16 hC16 hC hK16 hBm16 hBo16 p_16;have p_17:=hK17.p))
 replace hM17:Maker w17 base foot17 bp C (b.app ((([Al.ci 1 22 0 0 0 0,Al.ci 1 11 0 0 0 0,Al.ci 2 14 9 0 0 0]++Al.termC E s.a.toNat s.b.toNat 3 0)++[Al.ci 18 0 14 0 0 (b.out.length+11:Int),Al.downC C.n 14,Al.ci 17 0 0 0 0 (b.out.length+3:Int),Al.ci 13 16 11 10 0 0])++(⟨18,0,16,0,0,0⟩,Al.allSpan) :: ((⟨4,14,10,1,0,0⟩,⟨0,C.n⟩) :: (Al.termC E s.a.toNat s.b.toNat 4 (-Al.mostC E)++[Al.downC C.n 14,Al.ci 13 16 11 10 0 0,Al.ci 19 0 16 0 0 (b.out.length+14:Int)])))):=by simpa [Mk.app_app,Al.ci,Int.add_assoc,z1] using hM17
 go_wp2_with (first|(go_at_call 78;refine (land_app_makes C b (([Al.ci 1 22 0 0 0 0,Al.ci 1 11 0 0 0 0,Al.ci 2 14 9 0 0 0]++Al.termC E s.a.toNat s.b.toNat 3 0)++[Al.ci 18 0 14 0 0 (b.out.length+11:Int),Al.downC C.n 14,Al.ci 17 0 0 0 0 (b.out.length+3:Int),Al.ci 13 16 11 10 0 0]) ((⟨4,14,10,1,0,0⟩,⟨0,C.n⟩) :: (Al.termC E s.a.toNat s.b.toNat 4 (-Al.mostC E)++[Al.downC C.n 14,Al.ci 13 16 11 10 0 0,Al.ci 19 0 16 0 0 (b.out.length+14:Int)])) ⟨18,0,16,0,0,0⟩ Al.allSpan _ (by simp<;> omega) (by (try simp)<;> omega) _ _ _ _ hM17).mono ?_;rintro e w18 ⟨rfl,foot18,hM18,hC⟩;have hK18:=hK17.step hC;have hBm18:=hBm17.step hC;have hBo18:=hBo17.step hC;have hC18:=hC17.trans hC;clear hM17 hC17 hC hK17 hBm17 hBo17 p_17;have p_18:=hK18.p;have m_18:=hBm18.cell;have o_18:=hBo18.cell))
 go_wp2_with (first|(go_at_call 112;refine (within_makes C _ (0) (_) ⟨3,15,22,21,0,0⟩ (by (try simp)<;> omega) _ _ _ _ hM18).mono ?_;rintro e w19 ⟨rfl,foot19,hM19,hC⟩;have hK19:=hK18.step hC;have hBm19:=hBm18.step hC;have hBo19:=hBo18.step hC;have hC19:=hC18.trans hC;clear hM18 hC18 hC hK18 hBm18 hBo18 p_18 m_18 o_18;have p_19:=hK19.p;have m_19:=hBm19.cell;have o_19:=hBo19.cell))
 go_wp2_with (first|(go_at_call 159;refine (reduce_makes C hC _ 15 _ (by (try simp)<;> omega) _ _ _ _ hM19).mono ?_;rintro e w20 ⟨rfl,foot20,hM20,hC⟩;have hK20:=hK19.step hC;have hBm20:=hBm19.step hC;have hBo20:=hBo19.step hC;have hC20:=hC19.trans hC;clear hM19 hC19 hC hK19 hBm19 hBo19 p_19 m_19 o_19;have p_20:=hK20.p;have c8_20:=hM20.cells.c8))
 go_still_tail 6,(by kernel_rfl)
 go_wp2_with (first|(go_at_call 77;refine (put_makes C _ ⟨16,0,9,15,0,_⟩ (by (try simp)<;> omega) _ _ _ _ hM20.drew).mono ?_;rintro e w21 ⟨rfl,foot21,hM21,hC⟩;have hK21:=hK20.drew.step hC;have hBm21:=hBm20.drew.step hC;have hBo21:=hBo20.drew.step hC;have hC21:=hC20.drew.trans hC;clear hM20 hC20 hC hK20 hBm20 hBo20 p_20 c8_20))
 refine bodyPost_end (v:= .tuple #[]) (by simp [results,Tryz.results161,go_sem]) rfl ⟨rfl,_,by simpa [Mk.app_app,Al.ci,Al.convB,Int.add_assoc,hE.q,hE.n,hE.sc] using hM21,hC21⟩
end Go.Proofs.YtkplfaionpplaaaGreatDoor
