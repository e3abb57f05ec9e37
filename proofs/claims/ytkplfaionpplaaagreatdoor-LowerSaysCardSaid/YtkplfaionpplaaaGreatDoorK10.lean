/- Part 10: B19, B20, B21. -/
import Derived.Test.YtkplfaionpplaaaGreatDoorK9
set_option maxRecDepth 100000
set_option maxHeartbeats 6400000
set_option linter.unusedVariables false
set_option linter.unusedSimpArgs false
namespace Go.Proofs.YtkplfaionpplaaaGreatDoor
open Go.RowKit Go.Proofs.YtkplfaionpplaaaGreatDoorW.PrintLast
structure Gen (b:Mk)(c:List Al.CI)(t g:List Nat)(b2:Mk):Prop where
 out:b2.out=b.out++c.map Prod.fst
 spans:b2.spans=b.spans++c.map Prod.snd
 tapeOut:b2.tapeOut=b.tapeOut++t.map Int.ofNat
 givenUp:b2.givenUp=b.givenUp++g.map Int.ofNat
theorem Gen.refl (b:Mk):Gen b [] [] [] b:=⟨by simp,by simp,by simp,by simp⟩
theorem Gen.app (b:Mk)(l:List Al.CI):Gen b l [] [] (b.app l):=⟨rfl,rfl,by simp [Mk.app],by simp [Mk.app]⟩
theorem Gen.trans {a b c:Mk}{x y:List Al.CI}{t t2 g g2:List Nat}(h:Gen a x t g b)(k:Gen b y t2 g2 c):Gen a (x++y) (t++t2) (g++g2) c:=
 ⟨by rw [k.out,h.out];simp,by rw [k.spans,h.spans];simp,by rw [k.tapeOut,h.tapeOut];simp,by rw [k.givenUp,h.givenUp];simp⟩
theorem Gen.len {b b2:Mk}{c:List Al.CI}{t g:List Nat}(h:Gen b c t g b2):b2.out.length=b.out.length+c.length:=by rw [h.out];simp
theorem Gen.tlen {b b2:Mk}{c:List Al.CI}{t g:List Nat}(h:Gen b c t g b2):b2.tapeOut.length=b.tapeOut.length+t.length:=by rw [h.tapeOut];simp
theorem Gen.glen {b b2:Mk}{c:List Al.CI}{t g:List Nat}(h:Gen b c t g b2):b2.givenUp.length=b.givenUp.length+g.length:=by rw [h.givenUp];simp
theorem Gen.more {b b2:Mk}{c:List Al.CI}{t g:List Nat}(h:Gen b c t g b2)(l:List Al.CI):Gen b (c++l) t g (b2.app l):=by simpa using h.trans (Gen.app b2 l)
theorem Gen.eta {b b2:Mk}{c:List Al.CI}{t g:List Nat}(h:Gen b c t g b2):b2=Mk.app ⟨b.out,b.spans,b2.tapeOut,b2.givenUp,b2.vt,b2.vg⟩ c:=by
 cases b2;obtain⟨h1,h2,_,_⟩:=h;dsimp only at h1 h2;subst h1 h2;rfl
theorem Gen.same {b b2:Mk}{c c2:List Al.CI}{t t2 g g2:List Nat}(h:Gen b c t g b2)(hc:c=c2)(ht:t=t2)(hg:g=g2):Gen b c2 t2 g2 b2:=by subst hc ht hg;exact h
theorem SBox.cell {w:World}{f:Nat->Prop}{k:Nat}{s:Al.Stmt}{x6 x7:Value}(h:SBox w f k s x6 x7)(j:Nat):w.cell? ⟨k,j,none⟩=(stmtV s x6 x7)[j]?:=by rw [cell_blk h.h]
structure Ready (C:MkC)(E:Al.Env):Prop where
 ce:CE C E
 ok:E.Ok
 bits:E.bits=Al.bitsOf E.q
 prime:Al.isPrime E.q=true
 few:E.bits<=23
theorem vector_1 {C:MkC}{E:Al.Env}(R:Ready C E)(b:Mk)(s:Al.Stmt)(x6 x7:Value)(g:Al.GoodV E s)(h:b.out.length<990000)(ht:b.tapeOut.length<990000){w:World}{base bp:Nat}{foot:Nat->Prop}(hM:Maker w base foot bp C b)(hop:s.op=1):
  Calls Tryz.prog 76 #[.pointer (some ⟨bp,0,none⟩),.agg (stmtV s x6 x7)] w fun e w'=>e= .returned (.tuple #[])/\∃ foot' b',Gen b (Al.vecC E b.out.length 0 s) [] [] b'/\Maker w' base foot' bp C b'/\Chg w w' foot foot':=by
 have hE:=R.ce
 obtain⟨hM0,hC0,hK0⟩:Maker (w.alloc (.cells (stmtV s x6 x7) 66)) base foot bp C b/\Chg w (w.alloc (.cells (stmtV s x6 x7) 66)) foot foot/\SBox (w.alloc (.cells (stmtV s x6 x7) 66)) foot w.heap.size s x6 x7:=SBox.make hM s x6 x7
 clear hK0
 have HM:=zero_makes hE b s x6 x7 g.d (by omega) _ _ _ _ hM0
 unfold stmtV at HM hC0
 rw [hop] at HM hC0
 go_enter Tryz.func76,Tryz.ntmps76
 unfold stmtV
 rw [hop]
 go_wp2_with (first|(go_at_call 113;refine HM.mono ?_;rintro e w1 ⟨rfl,foot1,hM1,hC1⟩))
 refine bodyPost_end (v:= .tuple #[]) (by simp [results,Tryz.results76,go_sem]) rfl ⟨rfl,foot1,_,?_,hM1,hC0.trans hC1⟩
 simp only [Al.vecC,hop]
 exact Gen.app _ _
theorem vector_2 {C:MkC}{E:Al.Env}(R:Ready C E)(b:Mk)(s:Al.Stmt)(x6 x7:Value)(g:Al.GoodV E s)(h:b.out.length<990000)(ht:b.tapeOut.length<990000){w:World}{base bp:Nat}{foot:Nat->Prop}(hM:Maker w base foot bp C b)(hop:s.op=2):
  Calls Tryz.prog 76 #[.pointer (some ⟨bp,0,none⟩),.agg (stmtV s x6 x7)] w fun e w'=>e= .returned (.tuple #[])/\∃ foot' b',Gen b (Al.vecC E b.out.length 0 s) [] [] b'/\Maker w' base foot' bp C b'/\Chg w w' foot foot':=by
 have hE:=R.ce
 obtain⟨hM0,hC0,hK0⟩:Maker (w.alloc (.cells (stmtV s x6 x7) 66)) base foot bp C b/\Chg w (w.alloc (.cells (stmtV s x6 x7) 66)) foot foot/\SBox (w.alloc (.cells (stmtV s x6 x7) 66)) foot w.heap.size s x6 x7:=SBox.make hM s x6 x7
 clear hK0
 have HM:=copied_makes hE b s x6 x7 g.d (g.a (by omega) (by omega)) (by omega) _ _ _ _ hM0
 unfold stmtV at HM hC0
 rw [hop] at HM hC0
 go_enter Tryz.func76,Tryz.ntmps76
 unfold stmtV
 rw [hop]
 go_wp2_with (first|(go_at_call 114;refine HM.mono ?_;rintro e w1 ⟨rfl,foot1,hM1,hC1⟩))
 refine bodyPost_end (v:= .tuple #[]) (by simp [results,Tryz.results76,go_sem]) rfl ⟨rfl,foot1,_,?_,hM1,hC0.trans hC1⟩
 simp only [Al.vecC,hop]
 exact Gen.app _ _
theorem vector_12 {C:MkC}{E:Al.Env}(R:Ready C E)(b:Mk)(s:Al.Stmt)(x6 x7:Value)(g:Al.GoodV E s)(h:b.out.length<990000)(ht:b.tapeOut.length<990000){w:World}{base bp:Nat}{foot:Nat->Prop}(hM:Maker w base foot bp C b)(hop:s.op=12):
  Calls Tryz.prog 76 #[.pointer (some ⟨bp,0,none⟩),.agg (stmtV s x6 x7)] w fun e w'=>e= .returned (.tuple #[])/\∃ foot' b',Gen b (Al.vecC E b.out.length 0 s) [] [] b'/\Maker w' base foot' bp C b'/\Chg w w' foot foot':=by
 have hE:=R.ce
 obtain⟨hM0,hC0,hK0⟩:Maker (w.alloc (.cells (stmtV s x6 x7) 66)) base foot bp C b/\Chg w (w.alloc (.cells (stmtV s x6 x7) 66)) foot foot/\SBox (w.alloc (.cells (stmtV s x6 x7) 66)) foot w.heap.size s x6 x7:=SBox.make hM s x6 x7
 clear hK0
 have HM:=copied_makes hE b s x6 x7 g.d (g.a (by omega) (by omega)) (by omega) _ _ _ _ hM0
 unfold stmtV at HM hC0
 rw [hop] at HM hC0
 go_enter Tryz.func76,Tryz.ntmps76
 unfold stmtV
 rw [hop]
 go_wp2_with (first|(go_at_call 114;refine HM.mono ?_;rintro e w1 ⟨rfl,foot1,hM1,hC1⟩))
 refine bodyPost_end (v:= .tuple #[]) (by simp [results,Tryz.results76,go_sem]) rfl ⟨rfl,foot1,_,?_,hM1,hC0.trans hC1⟩
 simp only [Al.vecC,hop]
 exact Gen.app _ _
theorem vector_3 {C:MkC}{E:Al.Env}(R:Ready C E)(b:Mk)(s:Al.Stmt)(x6 x7:Value)(g:Al.GoodV E s)(h:b.out.length<990000)(ht:b.tapeOut.length<990000){w:World}{base bp:Nat}{foot:Nat->Prop}(hM:Maker w base foot bp C b)(hop:s.op=3):
  Calls Tryz.prog 76 #[.pointer (some ⟨bp,0,none⟩),.agg (stmtV s x6 x7)] w fun e w'=>e= .returned (.tuple #[])/\∃ foot' b',Gen b (Al.vecC E b.out.length 0 s) [] [] b'/\Maker w' base foot' bp C b'/\Chg w w' foot foot':=by
 have hE:=R.ce
 obtain⟨hM0,hC0,hK0⟩:Maker (w.alloc (.cells (stmtV s x6 x7) 66)) base foot bp C b/\Chg w (w.alloc (.cells (stmtV s x6 x7) 66)) foot foot/\SBox (w.alloc (.cells (stmtV s x6 x7) 66)) foot w.heap.size s x6 x7:=SBox.make hM s x6 x7
 clear hK0
 have HM:=add_makes hE b s x6 x7 g.d (g.a (by omega) (by omega)) (g.b (by omega)) (by omega) _ _ _ _ hM0
 unfold stmtV at HM hC0
 rw [hop] at HM hC0
 go_enter Tryz.func76,Tryz.ntmps76
 unfold stmtV
 rw [hop]
 go_wp2_with (first|(go_at_call 115;refine HM.mono ?_;rintro e w1 ⟨rfl,foot1,hM1,hC1⟩))
 refine bodyPost_end (v:= .tuple #[]) (by simp [results,Tryz.results76,go_sem]) rfl ⟨rfl,foot1,_,?_,hM1,hC0.trans hC1⟩
 simp only [Al.vecC,hop]
 exact Gen.app _ _
theorem vector_4 {C:MkC}{E:Al.Env}(R:Ready C E)(b:Mk)(s:Al.Stmt)(x6 x7:Value)(g:Al.GoodV E s)(h:b.out.length<990000)(ht:b.tapeOut.length<990000){w:World}{base bp:Nat}{foot:Nat->Prop}(hM:Maker w base foot bp C b)(hop:s.op=4):
  Calls Tryz.prog 76 #[.pointer (some ⟨bp,0,none⟩),.agg (stmtV s x6 x7)] w fun e w'=>e= .returned (.tuple #[])/\∃ foot' b',Gen b (Al.vecC E b.out.length 0 s) [] [] b'/\Maker w' base foot' bp C b'/\Chg w w' foot foot':=by
 have hE:=R.ce
 obtain⟨hM0,hC0,hK0⟩:Maker (w.alloc (.cells (stmtV s x6 x7) 66)) base foot bp C b/\Chg w (w.alloc (.cells (stmtV s x6 x7) 66)) foot foot/\SBox (w.alloc (.cells (stmtV s x6 x7) 66)) foot w.heap.size s x6 x7:=SBox.make hM s x6 x7
 clear hK0
 have HM:=sub_makes hE b s x6 x7 g.d (g.a (by omega) (by omega)) (g.b (by omega)) (by omega) _ _ _ _ hM0
 unfold stmtV at HM hC0
 rw [hop] at HM hC0
 go_enter Tryz.func76,Tryz.ntmps76
 unfold stmtV
 rw [hop]
 go_wp2_with (first|(go_at_call 116;refine HM.mono ?_;rintro e w1 ⟨rfl,foot1,hM1,hC1⟩))
 refine bodyPost_end (v:= .tuple #[]) (by simp [results,Tryz.results76,go_sem]) rfl ⟨rfl,foot1,_,?_,hM1,hC0.trans hC1⟩
 simp only [Al.vecC,hop]
 exact Gen.app _ _
theorem vector_5 {C:MkC}{E:Al.Env}(R:Ready C E)(b:Mk)(s:Al.Stmt)(x6 x7:Value)(g:Al.GoodV E s)(h:b.out.length<990000)(ht:b.tapeOut.length<990000){w:World}{base bp:Nat}{foot:Nat->Prop}(hM:Maker w base foot bp C b)(hop:s.op=5):
  Calls Tryz.prog 76 #[.pointer (some ⟨bp,0,none⟩),.agg (stmtV s x6 x7)] w fun e w'=>e= .returned (.tuple #[])/\∃ foot' b',Gen b (Al.vecC E b.out.length 0 s) [] [] b'/\Maker w' base foot' bp C b'/\Chg w w' foot foot':=by
 have hE:=R.ce
 obtain⟨hM0,hC0,hK0⟩:Maker (w.alloc (.cells (stmtV s x6 x7) 66)) base foot bp C b/\Chg w (w.alloc (.cells (stmtV s x6 x7) 66)) foot foot/\SBox (w.alloc (.cells (stmtV s x6 x7) 66)) foot w.heap.size s x6 x7:=SBox.make hM s x6 x7
 clear hK0
 have HM:=mul_makes hE b s x6 x7 g.d (g.a (by omega) (by omega)) (g.b (by omega)) (by omega) _ _ _ _ hM0
 unfold stmtV at HM hC0
 rw [hop] at HM hC0
 go_enter Tryz.func76,Tryz.ntmps76
 unfold stmtV
 rw [hop]
 go_wp2_with (first|(go_at_call 117;refine HM.mono ?_;rintro e w1 ⟨rfl,foot1,hM1,hC1⟩))
 refine bodyPost_end (v:= .tuple #[]) (by simp [results,Tryz.results76,go_sem]) rfl ⟨rfl,foot1,_,?_,hM1,hC0.trans hC1⟩
 simp only [Al.vecC,hop]
 exact Gen.app _ _
theorem vector_6 {C:MkC}{E:Al.Env}(R:Ready C E)(b:Mk)(s:Al.Stmt)(x6 x7:Value)(g:Al.GoodV E s)(h:b.out.length<990000)(ht:b.tapeOut.length<990000){w:World}{base bp:Nat}{foot:Nat->Prop}(hM:Maker w base foot bp C b)(hop:s.op=6):
  Calls Tryz.prog 76 #[.pointer (some ⟨bp,0,none⟩),.agg (stmtV s x6 x7)] w fun e w'=>e= .returned (.tuple #[])/\∃ foot' b',Gen b (Al.vecC E b.out.length 0 s) [] [] b'/\Maker w' base foot' bp C b'/\Chg w w' foot foot':=by
 have hE:=R.ce
 obtain⟨hM0,hC0,hK0⟩:Maker (w.alloc (.cells (stmtV s x6 x7) 66)) base foot bp C b/\Chg w (w.alloc (.cells (stmtV s x6 x7) 66)) foot foot/\SBox (w.alloc (.cells (stmtV s x6 x7) 66)) foot w.heap.size s x6 x7:=SBox.make hM s x6 x7
 clear hK0
 have HM:=scale_makes hE b s x6 x7 g.d (g.a (by omega) (by omega)) (by omega) _ _ _ _ hM0
 unfold stmtV at HM hC0
 rw [hop] at HM hC0
 go_enter Tryz.func76,Tryz.ntmps76
 unfold stmtV
 rw [hop]
 go_wp2_with (first|(go_at_call 118;refine HM.mono ?_;rintro e w1 ⟨rfl,foot1,hM1,hC1⟩))
 refine bodyPost_end (v:= .tuple #[]) (by simp [results,Tryz.results76,go_sem]) rfl ⟨rfl,foot1,_,?_,hM1,hC0.trans hC1⟩
 simp only [Al.vecC,hop]
 exact Gen.app _ _
theorem vector_7 {C:MkC}{E:Al.Env}(R:Ready C E)(b:Mk)(s:Al.Stmt)(x6 x7:Value)(g:Al.GoodV E s)(h:b.out.length<990000)(ht:b.tapeOut.length<990000){w:World}{base bp:Nat}{foot:Nat->Prop}(hM:Maker w base foot bp C b)(hop:s.op=7):
  Calls Tryz.prog 76 #[.pointer (some ⟨bp,0,none⟩),.agg (stmtV s x6 x7)] w fun e w'=>e= .returned (.tuple #[])/\∃ foot' b',Gen b (Al.vecC E b.out.length 0 s) [] [] b'/\Maker w' base foot' bp C b'/\Chg w w' foot foot':=by
 have hE:=R.ce
 obtain⟨hM0,hC0,hK0⟩:Maker (w.alloc (.cells (stmtV s x6 x7) 66)) base foot bp C b/\Chg w (w.alloc (.cells (stmtV s x6 x7) 66)) foot foot/\SBox (w.alloc (.cells (stmtV s x6 x7) 66)) foot w.heap.size s x6 x7:=SBox.make hM s x6 x7
 clear hK0
 have HM:=conv_makes hE b s x6 x7 g.d (g.a (by omega) (by omega)) (g.b (by omega)) R.ok (by omega) _ _ _ _ hM0
 unfold stmtV at HM hC0
 rw [hop] at HM hC0
 go_enter Tryz.func76,Tryz.ntmps76
 unfold stmtV
 rw [hop]
 go_wp2_with (first|(go_at_call 119;refine HM.mono ?_;rintro e w1 ⟨rfl,foot1,hM1,hC1⟩))
 refine bodyPost_end (v:= .tuple #[]) (by simp [results,Tryz.results76,go_sem]) rfl ⟨rfl,foot1,_,?_,hM1,hC0.trans hC1⟩
 simp only [Al.vecC,hop]
 exact Gen.app _ _
theorem vector_8 {C:MkC}{E:Al.Env}(R:Ready C E)(b:Mk)(s:Al.Stmt)(x6 x7:Value)(g:Al.GoodV E s)(h:b.out.length<990000)(ht:b.tapeOut.length<990000){w:World}{base bp:Nat}{foot:Nat->Prop}(hM:Maker w base foot bp C b)(hop:s.op=8):
  Calls Tryz.prog 76 #[.pointer (some ⟨bp,0,none⟩),.agg (stmtV s x6 x7)] w fun e w'=>e= .returned (.tuple #[])/\∃ foot' b',Gen b (Al.vecC E b.out.length 0 s) [] [] b'/\Maker w' base foot' bp C b'/\Chg w w' foot foot':=by
 have hE:=R.ce
 obtain⟨hM0,hC0,hK0⟩:Maker (w.alloc (.cells (stmtV s x6 x7) 66)) base foot bp C b/\Chg w (w.alloc (.cells (stmtV s x6 x7) 66)) foot foot/\SBox (w.alloc (.cells (stmtV s x6 x7) 66)) foot w.heap.size s x6 x7:=SBox.make hM s x6 x7
 clear hK0
 have HM:=round_makes hE b s x6 x7 g.d (g.a (by omega) (by omega)) (g.k8 (by omega)) (by omega) _ _ _ _ hM0
 unfold stmtV at HM hC0
 rw [hop] at HM hC0
 go_enter Tryz.func76,Tryz.ntmps76
 unfold stmtV
 rw [hop]
 go_wp2_with (first|(go_at_call 120;refine HM.mono ?_;rintro e w1 ⟨rfl,foot1,hM1,hC1⟩))
 refine bodyPost_end (v:= .tuple #[]) (by simp [results,Tryz.results76,go_sem]) rfl ⟨rfl,foot1,_,?_,hM1,hC0.trans hC1⟩
 simp only [Al.vecC,hop]
 exact Gen.app _ _
theorem vector_9 {C:MkC}{E:Al.Env}(R:Ready C E)(b:Mk)(s:Al.Stmt)(x6 x7:Value)(g:Al.GoodV E s)(h:b.out.length<990000)(ht:b.tapeOut.length<990000){w:World}{base bp:Nat}{foot:Nat->Prop}(hM:Maker w base foot bp C b)(hop:s.op=9):
  Calls Tryz.prog 76 #[.pointer (some ⟨bp,0,none⟩),.agg (stmtV s x6 x7)] w fun e w'=>e= .returned (.tuple #[])/\∃ foot' b',Gen b (Al.vecC E b.out.length 0 s) [] [] b'/\Maker w' base foot' bp C b'/\Chg w w' foot foot':=by
 have hE:=R.ce
 obtain⟨hM0,hC0,hK0⟩:Maker (w.alloc (.cells (stmtV s x6 x7) 66)) base foot bp C b/\Chg w (w.alloc (.cells (stmtV s x6 x7) 66)) foot foot/\SBox (w.alloc (.cells (stmtV s x6 x7) 66)) foot w.heap.size s x6 x7:=SBox.make hM s x6 x7
 clear hK0
 have HM:=expand_makes hE b s x6 x7 g.d (g.a (by omega) (by omega)) (g.k8 (by omega)) (by omega) _ _ _ _ hM0
 unfold stmtV at HM hC0
 rw [hop] at HM hC0
 go_enter Tryz.func76,Tryz.ntmps76
 unfold stmtV
 rw [hop]
 go_wp2_with (first|(go_at_call 121;refine HM.mono ?_;rintro e w1 ⟨rfl,foot1,hM1,hC1⟩))
 refine bodyPost_end (v:= .tuple #[]) (by simp [results,Tryz.results76,go_sem]) rfl ⟨rfl,foot1,_,?_,hM1,hC0.trans hC1⟩
 simp only [Al.vecC,hop]
 exact Gen.app _ _
theorem vector_10 {C:MkC}{E:Al.Env}(R:Ready C E)(b:Mk)(s:Al.Stmt)(x6 x7:Value)(g:Al.GoodV E s)(h:b.out.length<990000)(ht:b.tapeOut.length<990000){w:World}{base bp:Nat}{foot:Nat->Prop}(hM:Maker w base foot bp C b)(hop:s.op=10):
  Calls Tryz.prog 76 #[.pointer (some ⟨bp,0,none⟩),.agg (stmtV s x6 x7)] w fun e w'=>e= .returned (.tuple #[])/\∃ foot' b',Gen b (Al.vecC E b.out.length 0 s) [] [] b'/\Maker w' base foot' bp C b'/\Chg w w' foot foot':=by
 have hE:=R.ce
 obtain⟨hM0,hC0,hK0⟩:Maker (w.alloc (.cells (stmtV s x6 x7) 66)) base foot bp C b/\Chg w (w.alloc (.cells (stmtV s x6 x7) 66)) foot foot/\SBox (w.alloc (.cells (stmtV s x6 x7) 66)) foot w.heap.size s x6 x7:=SBox.make hM s x6 x7
 clear hK0
 have HM:=pick_makes hE b s x6 x7 g.d (g.a (by omega) (by omega)) (g.b (by omega)) (g.c hop) (by omega) _ _ _ _ hM0
 unfold stmtV at HM hC0
 rw [hop] at HM hC0
 go_enter Tryz.func76,Tryz.ntmps76
 unfold stmtV
 rw [hop]
 go_wp2_with (first|(go_at_call 122;refine HM.mono ?_;rintro e w1 ⟨rfl,foot1,hM1,hC1⟩))
 refine bodyPost_end (v:= .tuple #[]) (by simp [results,Tryz.results76,go_sem]) rfl ⟨rfl,foot1,_,?_,hM1,hC0.trans hC1⟩
 simp only [Al.vecC,hop]
 exact Gen.app _ _
theorem vector_11 {C:MkC}{E:Al.Env}(R:Ready C E)(b:Mk)(s:Al.Stmt)(x6 x7:Value)(g:Al.GoodV E s)(h:b.out.length<990000)(ht:b.tapeOut.length<990000){w:World}{base bp:Nat}{foot:Nat->Prop}(hM:Maker w base foot bp C b)(hop:s.op=11):
  Calls Tryz.prog 76 #[.pointer (some ⟨bp,0,none⟩),.agg (stmtV s x6 x7)] w fun e w'=>e= .returned (.tuple #[])/\∃ foot' b',Gen b (Al.vecC E b.out.length 0 s) [] [] b'/\Maker w' base foot' bp C b'/\Chg w w' foot foot':=by
 have hE:=R.ce
 obtain⟨hM0,hC0,hK0⟩:Maker (w.alloc (.cells (stmtV s x6 x7) 66)) base foot bp C b/\Chg w (w.alloc (.cells (stmtV s x6 x7) 66)) foot foot/\SBox (w.alloc (.cells (stmtV s x6 x7) 66)) foot w.heap.size s x6 x7:=SBox.make hM s x6 x7
 clear hK0
 have HM:=norm_makes hE b s x6 x7 g.d (g.a (by omega) (by omega)) (by omega) _ _ _ _ hM0
 unfold stmtV at HM hC0
 rw [hop] at HM hC0
 go_enter Tryz.func76,Tryz.ntmps76
 unfold stmtV
 rw [hop]
 go_wp2_with (first|(go_at_call 123;refine HM.mono ?_;rintro e w1 ⟨rfl,foot1,hM1,hC1⟩))
 refine bodyPost_end (v:= .tuple #[]) (by simp [results,Tryz.results76,go_sem]) rfl ⟨rfl,foot1,_,?_,hM1,hC0.trans hC1⟩
 simp only [Al.vecC,hop]
 exact Gen.app _ _
theorem vector_13 {C:MkC}{E:Al.Env}(R:Ready C E)(b:Mk)(s:Al.Stmt)(x6 x7:Value)(g:Al.GoodV E s)(h:b.out.length<990000)(ht:b.tapeOut.length<990000){w:World}{base bp:Nat}{foot:Nat->Prop}(hM:Maker w base foot bp C b)(hop:s.op=13):
  Calls Tryz.prog 76 #[.pointer (some ⟨bp,0,none⟩),.agg (stmtV s x6 x7)] w fun e w'=>e= .returned (.tuple #[])/\∃ foot' b',Gen b (Al.vecC E b.out.length 0 s) [b.out.length+5] [] b'/\Maker w' base foot' bp C b'/\Chg w w' foot foot':=by
 have hE:=R.ce
 obtain⟨hM0,hC0,hK0⟩:Maker (w.alloc (.cells (stmtV s x6 x7) 66)) base foot bp C b/\Chg w (w.alloc (.cells (stmtV s x6 x7) 66)) foot foot/\SBox (w.alloc (.cells (stmtV s x6 x7) 66)) foot w.heap.size s x6 x7:=SBox.make hM s x6 x7
 clear hK0
 have HM:=draw_makes hE b s x6 x7 g.d R.bits R.prime R.few (by omega) (by omega) hM0
 unfold stmtV at HM hC0
 rw [hop] at HM hC0
 go_enter Tryz.func76,Tryz.ntmps76
 unfold stmtV
 rw [hop]
 go_wp2_with (first|(go_at_call 124;refine HM.mono ?_;rintro e w1 ⟨rfl,foot1,vt1,hM1,hC1⟩))
 refine bodyPost_end (v:= .tuple #[]) (by simp [results,Tryz.results76,go_sem]) rfl ⟨rfl,foot1,_,?_,hM1,hC0.trans hC1⟩
 simp only [Al.vecC,hop]
 exact⟨rfl,rfl,rfl,by simp [Mk.app]⟩
theorem vector_made {C:MkC}{E:Al.Env}(R:Ready C E)(b:Mk)(s:Al.Stmt)(x6 x7:Value)(g:Al.GoodV E s)(h:b.out.length<990000)(ht:b.tapeOut.length<990000){w:World}{base bp:Nat}{foot:Nat->Prop}(hM:Maker w base foot bp C b):
  Calls Tryz.prog 76 #[.pointer (some ⟨bp,0,none⟩),.agg (stmtV s x6 x7)] w fun e w'=>e= .returned (.tuple #[])/\∃ foot' b',Gen b (Al.vecC E b.out.length 0 s) (if s.op=13 then [b.out.length+5] else []) [] b'/\Maker w' base foot' bp C b'/\Chg w w' foot foot':=by
 have hop:=g.op
 by_cases h13:s.op=13
 ·rw [if_pos h13];exact vector_13 R b s x6 x7 g h ht hM h13
 rw [if_neg h13]
 have h1:s.op=1\/s.op=2\/s.op=3\/s.op=4\/s.op=5\/s.op=6\/s.op=7\/s.op=8\/s.op=9\/s.op=10\/s.op=11\/s.op=12:=by omega
 rcases h1 with h1|h1|h1|h1|h1|h1|h1|h1|h1|h1|h1|h1
 ·exact vector_1 R b s x6 x7 g h ht hM h1
 ·exact vector_2 R b s x6 x7 g h ht hM h1
 ·exact vector_3 R b s x6 x7 g h ht hM h1
 ·exact vector_4 R b s x6 x7 g h ht hM h1
 ·exact vector_5 R b s x6 x7 g h ht hM h1
 ·exact vector_6 R b s x6 x7 g h ht hM h1
 ·exact vector_7 R b s x6 x7 g h ht hM h1
 ·exact vector_8 R b s x6 x7 g h ht hM h1
 ·exact vector_9 R b s x6 x7 g h ht hM h1
 ·exact vector_10 R b s x6 x7 g h ht hM h1
 ·exact vector_11 R b s x6 x7 g h ht hM h1
 ·exact vector_12 R b s x6 x7 g h ht hM h1
def AllC (C:MkC)(E:Al.Env)(W0:World)(deep:Nat):Prop:=
 ∀ (l:List Al.Stmt) (A:Option Addr) (cap:Nat),kStmt.C W0 A l.length l->Al.GoodL E deep l->l.length<=cap->∀ (b:Mk) (w:World) (bp:Nat) (foot:Nat->Prop),Below W0.heap.size W0 w->Maker w W0.heap.size foot bp C b->
  b.out.length+(Al.genL E 0 0 deep b.out.length l).length<980000->b.tapeOut.length<=b.out.length->b.givenUp.length<=b.out.length->
  Calls Tryz.prog 38 #[.pointer (some ⟨bp,0,none⟩),.slice A l.length cap,.int .i64 deep] w fun e w'=>e= .returned (.tuple #[])/\∃ foot' b',Gen b (Al.genL E 0 0 deep b.out.length l) (Al.posTL E deep b.out.length l) (Al.posGL E deep b.out.length l) b'/\Maker w' W0.heap.size foot' bp C b'/\Chg w w' foot foot'
theorem Maker.since {W0 w w':World}{bp:Nat}{foot foot':Nat->Prop}{C:MkC}{b:Mk}(hM:Maker w W0.heap.size foot bp C b)(hB:Below W0.heap.size W0 w)(hC:Chg w w' foot foot'):Below W0.heap.size W0 w':=by
 obtain⟨vo,vs,vt,vg,hblk,ho,hs,ht,hg,hne,hbb,hl,hfb,hfr,hf,hvt,hvg⟩:=hM
 exact hB.trans (hC.below (fun k hk=>(hf k hk).1) hB.size)
theorem Gen.landed {b b2:Mk}{l1 l2:List Al.CI}{i:Al.Inst}{sp:Al.Span}{t g:List Nat}(h:Gen b (l1++(i,sp) :: l2) t g b2)(C:MkC)(x:Int)(hx:x=(b.out.length+l1.length:Nat))(hl:b.out.length+l1.length+1+l2.length<1000000)
  {w:World} {base bp:Nat} {foot:Nat->Prop} (hM:Maker w base foot bp C b2):
  Calls Tryz.prog 78 #[.pointer (some ⟨bp,0,none⟩),.slice (some ⟨w.heap.size,0,none⟩) 1 1] (w.alloc (.cells #[.int .i64 x] 3)) fun e w'=>e= .returned (.tuple #[])/\
   ∃ foot' b3,Gen b (l1++({ i with k:=(b.out.length+l1.length+1+l2.length:Nat)},sp) :: l2) t g b3/\Maker w' base foot' bp C b3/\Chg w w' foot foot':=by
 have e:=h.eta
 obtain⟨B,hB⟩:∃ B:Mk,B=⟨b.out,b.spans,b2.tapeOut,b2.givenUp,b2.vt,b2.vg⟩:=⟨_,rfl⟩
 have hBo:B.out=b.out:=by rw [hB]
 rw [<-hB] at e
 rw [e] at hM
 refine (land_app_makes C B l1 l2 i sp x (by rw [hBo];exact hx) (by rw [Mk.app_len,hBo];simp;omega) _ _ _ _ hM).mono ?_
 rintro r w' ⟨rfl,foot',hM',hC'⟩
 rw [hBo] at hM'
 refine⟨rfl,foot',_,?_,hM',hC'⟩
 exact⟨by simp [Mk.app,hB],by simp [Mk.app,hB],by simp [Mk.app,hB,h.tapeOut],by simp [Mk.app,hB,h.givenUp]⟩
theorem SBox.s5 {w:World}{f:Nat->Prop}{k:Nat}{s:Al.Stmt}{x6 x7:Value}(h:SBox w f k s x6 x7):w.cell? ⟨k,5,none⟩=some (.int .i64 s.k):=by rw [cell_blk h.h];rfl
theorem SBox.s6 {w:World}{f:Nat->Prop}{k:Nat}{s:Al.Stmt}{x6 x7:Value}(h:SBox w f k s x6 x7):w.cell? ⟨k,6,none⟩=some x6:=by rw [cell_blk h.h];rfl
theorem SBox.s7 {w:World}{f:Nat->Prop}{k:Nat}{s:Al.Stmt}{x6 x7:Value}(h:SBox w f k s x6 x7):w.cell? ⟨k,7,none⟩=some x7:=by rw [cell_blk h.h];rfl
theorem branch_made {C:MkC}{E:Al.Env}(R:Ready C E){W0:World}{deep:Nat}(hd:deep<=6)(hA:AllC C E W0 (deep+1))(s:Al.Stmt){A6 A7:Option Addr}{c6 c7:Nat}(l6:s.body.length<=c6)(g6:kStmt.C W0 A6 s.body.length s.body)(l7:s.els.length<=c7)(g7:kStmt.C W0 A7 s.els.length s.els)(va:Al.isVar E s.a)(gb:Al.GoodL E (deep+1) s.body)(ge:Al.GoodL E (deep+1) s.els)(b:Mk)(x y:List Al.CI)(hx:x=Al.genL E 0 0 (deep+1) (b.out.length+2) s.body)(hy:y=Al.genL E 0 0 (deep+1) (b.out.length+2+x.length+1) s.els)(hl:b.out.length+2+x.length+1+y.length<980000){w:World}{bp:Nat}{foot:Nat->Prop}(hB:Below W0.heap.size W0 w)(ht:b.tapeOut.length<=b.out.length)(hg:b.givenUp.length<=b.out.length)(hM:Maker w W0.heap.size foot bp C b):
  Calls Tryz.prog 73 #[.pointer (some ⟨bp,0,none⟩),.agg (stmtV s (.slice A6 s.body.length c6) (.slice A7 s.els.length c7)),.int .i64 deep] w fun e w'=>e= .returned (.tuple #[])/\∃ foot' b',Gen b ([Al.ci 15 12 0 0 0 (E.place s.a.toNat:Nat),Al.ci 18 0 12 0 0 ((b.out.length+2+x.length+1:Nat):Int)]++(x++(Al.ci 17 0 0 0 0 ((b.out.length+2+x.length+1+y.length:Nat):Int) :: y))) (Al.posTL E (deep+1) (b.out.length+2) s.body++Al.posTL E (deep+1) (b.out.length+2+x.length+1) s.els) (Al.posGL E (deep+1) (b.out.length+2) s.body++Al.posGL E (deep+1) (b.out.length+2+x.length+1) s.els) b'/\Maker w' W0.heap.size foot' bp C b'/\Chg w w' foot foot':=by
 replace hy:=Lib.hid hy
 replace hx:=Lib.hid hx
 have hE:=R.ce
 have hCk:=hE.ok
 obtain⟨x6,hx6⟩:∃ x6,x6=Value.slice A6 s.body.length c6:=⟨_,rfl⟩
 obtain⟨x7,hx7⟩:∃ x7,x7=Value.slice A7 s.els.length c7:=⟨_,rfl⟩
 rw [<-hx6,<-hx7]
 replace hx6:=Lib.hid hx6
 replace hx7:=Lib.hid hx7
 obtain⟨W,hW⟩:∃ W,W=w.alloc (.cells (stmtV s x6 x7) 66):=⟨_,rfl⟩
 obtain⟨hM0,hC0,hK0⟩:Maker W W0.heap.size foot bp C b/\Chg w W foot foot/\SBox W foot w.heap.size s x6 x7:=by rw [hW];exact SBox.make hM s x6 x7
 obtain⟨ks,hks⟩:∃ ks,ks=w.heap.size:=⟨_,rfl⟩
 have hB0:=hM.since hB hC0
 go_enter Tryz.func73,Tryz.ntmps73
 unfold stmtV
 go_wp2_with fail
 have hWu:W=w.alloc (.cells #[.int .i64 s.op,.int .i64 s.d,.int .i64 s.a,.int .i64 s.b,.int .i64 s.c,.int .i64 s.k,x6,x7] 66):=hW
 rw [<-hWu]
 simp only [<-hks] at hK0 ⊢
 clear hW hks hWu hM hB
 have s2_0:=hK0.s2
 go_wp2_with (first|(go_at_call 110;refine (load_makes C hCk _ 12 0 s.a (by omega) va.1 (hE.lt va) _ _ _ _ hM0).mono ?_;rintro e w1 ⟨rfl,foot1,hM1,hC⟩;have hK1:=hK0.step hC;have hB1:=hM0.since hB0 hC;have hC1:=hC0.trans hC;clear hM0 hC0 hC hK0 hB0 s2_0))
 go_wp2_with (first|(go_at_call 77;refine (put_makes C _ ⟨18,0,12,0,0,0⟩ (by simp;omega) _ _ _ _ hM1).mono ?_;rintro e w2 ⟨rfl,foot2,hM2,hC⟩;have hK2:=hK1.step hC;have hB2:=hM1.since hB1 hC;have hC2:=hC1.trans hC;clear hM1 hC1 hC hK1 hB1;have s6_2:=hK2.s6.trans (congrArg some (show x6=_ from hx6))))
 obtain⟨b2,hb2⟩:∃ b2:Mk,b2=(b.app [Al.ci 15 12 0 0 0 (2+C.n * s.a)]).app [(⟨18,0,12,0,0,0⟩,Al.allSpan)]:=⟨_,rfl⟩
 have G2:Gen b ([Al.ci 15 12 0 0 0 (2+C.n * s.a)]++(⟨18,0,12,0,0,0⟩,Al.allSpan) :: []) [] [] b2:=by rw [hb2,Mk.app_app];exact Gen.app _ _
 have e2:b2.out.length=b.out.length+2:=G2.len
 have t2:=G2.tlen
 have u2:=G2.glen
 rw [<-hb2] at hM2
 have qx:=Al.posTL_le E s.body (deep+1) (b.out.length+2)
 have qg:=Al.posGL_le E s.body (deep+1) (b.out.length+2)
 rw [<-(show x=_ from hx)] at qx qg
 have HA:=hA s.body A6 c6 g6 gb l6 b2 w2 bp foot2 hB2 hM2 (by rw [e2,<-(show x=_ from hx)];omega) (by simp at t2;omega) (by simp at u2;omega)
 rw [e2,<-(show x=_ from hx)] at HA
 have hde:((deep+1:Nat):Int)=(deep:Int)+1:=by simp
 rw [hde] at HA
 simp only [List.length_nil] at t2 u2
 go_wp2_with (first|(go_at_call 38;refine (HA).mono ?_;rintro e w3 ⟨rfl,foot3,b3,G,hM3,hC⟩;have hK3:=hK2.step hC;have hB3:=hM2.since hB2 hC;have hC3:=hC2.trans hC;replace G:=G2.trans G;clear hM2 hC2 hC hK2 hB2 s6_2))
 have e3:=G.len
 have t3:=G.tlen
 have u3:=G.glen
 simp only [List.nil_append,List.cons_append,List.length_cons] at G e3 t3 u3
 go_wp2_with (first|(go_at_call 77;refine (put_makes C _ ⟨17,0,0,0,0,0⟩ (by omega) _ _ _ _ hM3).mono ?_;rintro e w4 ⟨rfl,foot4,hM4,hC⟩;have hK4:=hK3.step hC;have hB4:=hM3.since hB3 hC;have hC4:=hC3.trans hC;clear hM3 hC3 hC hK3 hB3))
 obtain⟨b4,hb4⟩:∃ b4:Mk,b4=b3.app [(⟨17,0,0,0,0,0⟩,Al.allSpan)]:=⟨_,rfl⟩
 have G4:=G.more [(⟨17,0,0,0,0,0⟩,Al.allSpan)]
 rw [<-hb4] at hM4 G4
 have HL:=Gen.landed (l1:=[Al.ci 15 12 0 0 0 (2+C.n * s.a)]) (l2:=x++[(⟨17,0,0,0,0,0⟩,Al.allSpan)]) G4 C ((b.out.length:Int)+1) (by simp) (by simp;omega) hM4
 go_wp2_with (first|(go_at_call 78;refine (HL).mono ?_;rintro e w5 ⟨rfl,foot5,b5,G5,hM5,hC⟩;have hK5:=hK4.step hC;have hB5:=hM4.since hB4 hC;have hC5:=hC4.trans hC;clear hM4 hC4 hC hK4 hB4;have s7_5:=hK5.s7.trans (congrArg some (show x7=_ from hx7))))
 have e5:=G5.len
 have t5:=G5.tlen
 have u5:=G5.glen
 simp only [List.cons_append,List.nil_append,List.length_cons,List.length_append,List.length_nil] at G5 e5 t5 u5
 have e5':b5.out.length=b.out.length+2+x.length+1:=by omega
 have qx2:=Al.posTL_le E s.els (deep+1) (b.out.length+2+x.length+1)
 have qg2:=Al.posGL_le E s.els (deep+1) (b.out.length+2+x.length+1)
 rw [<-(show y=_ from hy)] at qx2 qg2
 have HA2:=hA s.els A7 c7 g7 ge l7 b5 w5 bp foot5 hB5 hM5 (by rw [e5',<-(show y=_ from hy)];omega) (by omega) (by omega)
 rw [e5',<-(show y=_ from hy),hde] at HA2
 go_wp2_with (first|(go_at_call 38;refine (HA2).mono ?_;rintro e w6 ⟨rfl,foot6,b6,G6,hM6,hC⟩;have hK6:=hK5.step hC;have hB6:=hM5.since hB5 hC;have hC6:=hC5.trans hC;replace G6:=G5.trans G6;clear hM5 hC5 hC hK5 hB5 s7_5))
 have HL2:=Gen.landed (l1:=[Al.ci 15 12 0 0 0 (2+C.n * s.a),(⟨18,0,12,0,0,((b.out.length+(0+1)+1+(x.length+(0+1)):Nat):Int)⟩,Al.allSpan)]++x) (i:=⟨17,0,0,0,0,0⟩) (sp:=Al.allSpan) (l2:=y) (G6.same (by simp) rfl rfl) C ((b.out.length:Int)+((x.length:Int)+1+1)) (by simp<;> omega) (by simp<;> omega) hM6
 go_wp2_with (first|(go_at_call 78;refine (HL2).mono ?_;rintro e w7 ⟨rfl,foot7,b7,G7,hM7,hC⟩;have hK7:=hK6.step hC;have hB7:=hM6.since hB6 hC;have hC7:=hC6.trans hC;clear hM6 hC6 hC hK6 hB6))
 refine bodyPost_end (v:= .tuple #[]) (by simp [results,Tryz.results73,go_sem]) rfl ⟨rfl,_,_,?_,hM7,hC7⟩
 refine G7.same ?_ rfl rfl
 have ep:=hE.place va
 simp [Al.ci,ep,hE.n]
 omega
theorem times_made {C:MkC}{E:Al.Env}(R:Ready C E){W0:World}{deep:Nat}(hd:deep<=6)(hA:AllC C E W0 (deep+1))(s:Al.Stmt){A6 A7:Option Addr}{c6 c7:Nat}(l6:s.body.length<=c6)(g6:kStmt.C W0 A6 s.body.length s.body)(l7:s.els.length<=c7)(g7:kStmt.C W0 A7 s.els.length s.els)(k0:1<=s.k)(k1:s.k<=50)(gb:Al.GoodL E (deep+1) s.body)(b:Mk)(x:List Al.CI)(hx:x=Al.genL E 0 0 (deep+1) (b.out.length+1) s.body)(hl:b.out.length+1+x.length+2<980000){w:World}{bp:Nat}{foot:Nat->Prop}(hB:Below W0.heap.size W0 w)(ht:b.tapeOut.length<=b.out.length)(hg:b.givenUp.length<=b.out.length)(hM:Maker w W0.heap.size foot bp C b):
  Calls Tryz.prog 74 #[.pointer (some ⟨bp,0,none⟩),.agg (stmtV s (.slice A6 s.body.length c6) (.slice A7 s.els.length c7)),.int .i64 deep] w fun e w'=>e= .returned (.tuple #[])/\∃ foot' b',Gen b (Al.ci 1 (2+deep:Nat) 0 0 0 s.k :: (x++[(⟨4,(2+deep:Nat),(2+deep:Nat),1,0,0⟩,⟨0,s.k⟩),Al.ci 19 0 (2+deep:Nat) 0 0 ((b.out.length+1:Nat):Int)])) (Al.posTL E (deep+1) (b.out.length+1) s.body) (Al.posGL E (deep+1) (b.out.length+1) s.body) b'/\Maker w' W0.heap.size foot' bp C b'/\Chg w w' foot foot':=by
 replace hx:=Lib.hid hx
 have hE:=R.ce
 have hCk:=hE.ok
 obtain⟨x6,hx6⟩:∃ x6,x6=Value.slice A6 s.body.length c6:=⟨_,rfl⟩
 obtain⟨x7,hx7⟩:∃ x7,x7=Value.slice A7 s.els.length c7:=⟨_,rfl⟩
 rw [<-hx6,<-hx7]
 replace hx6:=Lib.hid hx6
 replace hx7:=Lib.hid hx7
 obtain⟨W,hW⟩:∃ W,W=w.alloc (.cells (stmtV s x6 x7) 66):=⟨_,rfl⟩
 obtain⟨hM0,hC0,hK0⟩:Maker W W0.heap.size foot bp C b/\Chg w W foot foot/\SBox W foot w.heap.size s x6 x7:=by rw [hW];exact SBox.make hM s x6 x7
 obtain⟨ks,hks⟩:∃ ks,ks=w.heap.size:=⟨_,rfl⟩
 have hB0:=hM.since hB hC0
 go_enter Tryz.func74,Tryz.ntmps74
 unfold stmtV
 go_wp2_with fail
 have hWu:W=w.alloc (.cells #[.int .i64 s.op,.int .i64 s.d,.int .i64 s.a,.int .i64 s.b,.int .i64 s.c,.int .i64 s.k,x6,x7] 66):=hW
 rw [<-hWu]
 simp only [<-hks] at hK0 ⊢
 clear hW hks hWu hM hB
 have hde:((deep+1:Nat):Int)=(deep:Int)+1:=by simp
 have hd3:((2+deep:Nat):Int)=2+(deep:Int):=by simp
 have s5_0:=hK0.s5
 go_wp2_with (first|(go_at_call 72;refine (constant_makes C _ _ s.k (by omega) _ _ _ _ hM0).mono ?_;rintro e w1 ⟨rfl,foot1,hM1,hC⟩;have hK1:=hK0.step hC;have hB1:=hM0.since hB0 hC;have hC1:=hC0.trans hC;clear hM0 hC0 hC hK0 hB0 s5_0))
 go_wp2_with (first|(go_at_call 111;refine (here_makes C _ _ _ _ _ hM1).mono ?_;rintro e w2 ⟨rfl,foot2,hM2,hC⟩;have hK2:=hK1.step hC;have hB2:=hM1.since hB1 hC;have hC2:=hC1.trans hC;clear hM1 hC1 hC hK1 hB1;have s6_2:=hK2.s6.trans (congrArg some (show x6=_ from hx6))))
 have G2:=Gen.app b [Al.ci 1 ((2+deep:Nat):Int) 0 0 0 s.k]
 have hbb:∃ b2:Mk,b2=b.app [Al.ci 1 ((2+deep:Nat):Int) 0 0 0 s.k]:=⟨_,rfl⟩
 obtain⟨b2,hb2⟩:=hbb
 rw [<-hb2] at G2
 have hM2':Maker w2 W0.heap.size foot2 bp C b2:=by rw [hb2];simpa [hd3] using hM2
 have e2:b2.out.length=b.out.length+1:=G2.len
 have t2:=G2.tlen
 have u2:=G2.glen
 simp only [List.length_nil] at t2 u2
 have qx:=Al.posTL_le E s.body (deep+1) (b.out.length+1)
 have qg:=Al.posGL_le E s.body (deep+1) (b.out.length+1)
 rw [<-(show x=_ from hx)] at qx qg
 have HA:=hA s.body A6 c6 g6 gb l6 b2 w2 bp foot2 hB2 hM2' (by rw [e2,<-(show x=_ from hx)];omega) (by omega) (by omega)
 rw [e2,<-(show x=_ from hx),hde] at HA
 go_wp2_with (first|(go_at_call 38;refine (HA).mono ?_;rintro e w3 ⟨rfl,foot3,b3,G,hM3,hC⟩;have hK3:=hK2.step hC;have hB3:=hM2.since hB2 hC;have hC3:=hC2.trans hC;replace G:=G2.trans G;clear hM2 hC2 hC hK2 hB2 s6_2;have s5_3:=hK3.s5))
 have e3:=G.len
 have t3:=G.tlen
 have u3:=G.glen
 simp only [List.nil_append,List.cons_append,List.length_cons] at G e3 t3 u3
 clear hM2'
 go_wp2_with (first|(go_at_call 112;refine (within_makes C _ 0 s.k ⟨4,_,_,1,0,0⟩ (by omega) _ _ _ _ hM3).mono ?_;rintro e w4 ⟨rfl,foot4,hM4,hC⟩;have hK4:=hK3.step hC;have hB4:=hM3.since hB3 hC;have hC4:=hC3.trans hC;clear hM3 hC3 hC hK3 hB3 s5_3))
 go_wp2_with (first|(go_at_call 77;refine (put_makes C _ ⟨19,0,_,0,0,_⟩ (by simp;omega) _ _ _ _ hM4).mono ?_;rintro e w5 ⟨rfl,foot5,hM5,hC⟩;have hK5:=hK4.step hC;have hB5:=hM4.since hB4 hC;have hC5:=hC4.trans hC;clear hM4 hC4 hC hK4 hB4))
 refine bodyPost_end (v:= .tuple #[]) (by simp [results,Tryz.results74,go_sem]) rfl ⟨rfl,_,_,?_,hM5,hC5⟩
 refine ((G.more _).more _).same ?_ rfl rfl
 simp [Al.ci,hd3]
theorem until_made {C:MkC}{E:Al.Env}(R:Ready C E){W0:World}{deep:Nat}(hd:deep<=6)(hA:AllC C E W0 (deep+1))(s:Al.Stmt){A6 A7:Option Addr}{c6 c7:Nat}(l6:s.body.length<=c6)(g6:kStmt.C W0 A6 s.body.length s.body)(l7:s.els.length<=c7)(g7:kStmt.C W0 A7 s.els.length s.els)(va:Al.isVar E s.a)(k0:1<=s.k)(k1:s.k<=50)(gb:Al.GoodL E (deep+1) s.body)(b:Mk)(x:List Al.CI)(hx:x=Al.genL E 0 0 (deep+1) (b.out.length+1) s.body)(hl:b.out.length+1+x.length+5<980000){w:World}{bp:Nat}{foot:Nat->Prop}(hB:Below W0.heap.size W0 w)(ht:b.tapeOut.length<=b.out.length)(hg:b.givenUp.length<=b.out.length)(hM:Maker w W0.heap.size foot bp C b):
  Calls Tryz.prog 75 #[.pointer (some ⟨bp,0,none⟩),.agg (stmtV s (.slice A6 s.body.length c6) (.slice A7 s.els.length c7)),.int .i64 deep] w fun e w'=>e= .returned (.tuple #[])/\∃ foot' b',Gen b (Al.ci 1 (2+deep:Nat) 0 0 0 s.k :: (x++[Al.ci 15 12 0 0 0 (E.place s.a.toNat:Nat),Al.ci 19 0 12 0 0 ((b.out.length+1+x.length+5:Nat):Int),(⟨4,(2+deep:Nat),(2+deep:Nat),1,0,0⟩,⟨0,s.k⟩),Al.ci 19 0 (2+deep:Nat) 0 0 ((b.out.length+1:Nat):Int),Al.ci 17 0 0 0 0 0])) (Al.posTL E (deep+1) (b.out.length+1) s.body) (Al.posGL E (deep+1) (b.out.length+1) s.body++[b.out.length+1+x.length+4]) b'/\Maker w' W0.heap.size foot' bp C b'/\Chg w w' foot foot':=by
 replace hx:=Lib.hid hx
 have hE:=R.ce
 have hCk:=hE.ok
 obtain⟨x6,hx6⟩:∃ x6,x6=Value.slice A6 s.body.length c6:=⟨_,rfl⟩
 obtain⟨x7,hx7⟩:∃ x7,x7=Value.slice A7 s.els.length c7:=⟨_,rfl⟩
 rw [<-hx6,<-hx7]
 replace hx6:=Lib.hid hx6
 replace hx7:=Lib.hid hx7
 obtain⟨W,hW⟩:∃ W,W=w.alloc (.cells (stmtV s x6 x7) 66):=⟨_,rfl⟩
 obtain⟨hM0,hC0,hK0⟩:Maker W W0.heap.size foot bp C b/\Chg w W foot foot/\SBox W foot w.heap.size s x6 x7:=by rw [hW];exact SBox.make hM s x6 x7
 obtain⟨ks,hks⟩:∃ ks,ks=w.heap.size:=⟨_,rfl⟩
 have hB0:=hM.since hB hC0
 go_enter Tryz.func75,Tryz.ntmps75
 unfold stmtV
 go_wp2_with fail
 have hWu:W=w.alloc (.cells #[.int .i64 s.op,.int .i64 s.d,.int .i64 s.a,.int .i64 s.b,.int .i64 s.c,.int .i64 s.k,x6,x7] 66):=hW
 rw [<-hWu]
 simp only [<-hks] at hK0 ⊢
 clear hW hks hWu hM hB
 obtain⟨j0,hj0,jz0,jz1,jz2⟩:=info_parts Tryz.infoInt
 have hde:((deep+1:Nat):Int)=(deep:Int)+1:=by simp
 have hd3:((2+deep:Nat):Int)=2+(deep:Int):=by simp
 have s5_0:=hK0.s5
 go_wp2_with (first|(go_at_call 72;refine (constant_makes C _ _ s.k (by omega) _ _ _ _ hM0).mono ?_;rintro e w1 ⟨rfl,foot1,hM1,hC⟩;have hK1:=hK0.step hC;have hB1:=hM0.since hB0 hC;have hC1:=hC0.trans hC;clear hM0 hC0 hC hK0 hB0 s5_0))
 go_wp2_with (first|(go_at_call 111;refine (here_makes C _ _ _ _ _ hM1).mono ?_;rintro e w2 ⟨rfl,foot2,hM2,hC⟩;have hK2:=hK1.step hC;have hB2:=hM1.since hB1 hC;have hC2:=hC1.trans hC;clear hM1 hC1 hC hK1 hB1;have s6_2:=hK2.s6.trans (congrArg some (show x6=_ from hx6))))
 have G2:=Gen.app b [Al.ci 1 ((2+deep:Nat):Int) 0 0 0 s.k]
 have hbb:∃ b2:Mk,b2=b.app [Al.ci 1 ((2+deep:Nat):Int) 0 0 0 s.k]:=⟨_,rfl⟩
 obtain⟨b2,hb2⟩:=hbb
 rw [<-hb2] at G2
 have hM2':Maker w2 W0.heap.size foot2 bp C b2:=by rw [hb2];simpa [hd3] using hM2
 have e2:b2.out.length=b.out.length+1:=G2.len
 have t2:=G2.tlen
 have u2:=G2.glen
 simp only [List.length_nil] at t2 u2
 have qx:=Al.posTL_le E s.body (deep+1) (b.out.length+1)
 have qg:=Al.posGL_le E s.body (deep+1) (b.out.length+1)
 rw [<-(show x=_ from hx)] at qx qg
 have HA:=hA s.body A6 c6 g6 gb l6 b2 w2 bp foot2 hB2 hM2' (by rw [e2,<-(show x=_ from hx)];omega) (by omega) (by omega)
 rw [e2,<-(show x=_ from hx),hde] at HA
 go_wp2_with (first|(go_at_call 38;refine (HA).mono ?_;rintro e w3 ⟨rfl,foot3,b3,G,hM3,hC⟩;have hK3:=hK2.step hC;have hB3:=hM2.since hB2 hC;have hC3:=hC2.trans hC;replace G:=G2.trans G;clear hM2 hC2 hC hK2 hB2 s6_2;have s2_3:=hK3.s2))
 have e3:=G.len
 have t3:=G.tlen
 have u3:=G.glen
 simp only [List.nil_append,List.cons_append,List.length_cons] at G e3 t3 u3
 clear hM2' HA G2 hb2 e2 t2 u2
 go_wp2_with (first|(go_at_call 110;refine (load_makes C hCk _ 12 0 s.a (by omega) va.1 (hE.lt va) _ _ _ _ hM3).mono ?_;rintro e w4 ⟨rfl,foot4,hM4,hC⟩;have hK4:=hK3.step hC;have hB4:=hM3.since hB3 hC;have hC4:=hC3.trans hC;clear hM3 hC3 hC hK3 hB3 s2_3))
 go_wp2_with (first|(go_at_call 77;refine (put_makes C _ ⟨19,0,12,0,0,0⟩ (by simp;omega) _ _ _ _ hM4).mono ?_;rintro e w5 ⟨rfl,foot5,hM5,hC⟩;have hK5:=hK4.step hC;have hB5:=hM4.since hB4 hC;have hC5:=hC4.trans hC;clear hM4 hC4 hC hK4 hB4;have s5_5:=hK5.s5))
 go_wp2_with (first|(go_at_call 112;refine (within_makes C _ 0 s.k ⟨4,_,_,1,0,0⟩ (by simp;omega) _ _ _ _ hM5).mono ?_;rintro e w6 ⟨rfl,foot6,hM6,hC⟩;have hK6:=hK5.step hC;have hB6:=hM5.since hB5 hC;have hC6:=hC5.trans hC;clear hM5 hC5 hC hK5 hB5 s5_5))
 go_wp2_with (first|(go_at_call 77;refine (put_makes C _ ⟨19,0,_,0,0,_⟩ (by simp;omega) _ _ _ _ hM6).mono ?_;rintro e w7 ⟨rfl,foot7,hM7,hC⟩;have hK7:=hK6.step hC;have hB7:=hM6.since hB6 hC;have hC7:=hC6.trans hC;clear hM6 hC6 hC hK6 hB6))
 have G8:=((((G.more _).more _).more _).more _:Gen b _ _ _ (((((b3.app [Al.ci 15 12 0 0 0 (2+C.n * s.a)]).app [(⟨19,0,12,0,0,0⟩,Al.allSpan)]).app [(⟨4,2+(deep:Int),2+(deep:Int),1,0,0⟩,⟨0,s.k⟩)])).app [(⟨19,0,2+(deep:Int),0,0,(b.out.length:Int)+1⟩,Al.allSpan)]))
 obtain⟨b8,hb8⟩:∃ b8:Mk,b8=(((((b3.app [Al.ci 15 12 0 0 0 (2+C.n * s.a)]).app [(⟨19,0,12,0,0,0⟩,Al.allSpan)]).app [(⟨4,2+(deep:Int),2+(deep:Int),1,0,0⟩,⟨0,s.k⟩)])).app [(⟨19,0,2+(deep:Int),0,0,(b.out.length:Int)+1⟩,Al.allSpan)]):=⟨_,rfl⟩
 rw [<-hb8] at G8
 have hM8':Maker w7 W0.heap.size foot7 bp C b8:=by rw [hb8];exact hM7
 have e8:=G8.len
 have t8:=G8.tlen
 have u8:=G8.glen
 simp only [List.length_cons,List.length_append,List.length_nil] at e8 t8 u8
 have l8:b8.out.length<990000:=by omega
 have m8:b8.givenUp.length<990000:=by omega
 have E8:=Lib.hid e8
 clear e8 t8 u8
 clear hM7 hb8
 have hM8:=hM8'
 clear hM8'
 have c10_8:w7.cell? ⟨bp,10,none⟩=some b8.vg:=hM8.c10
 go_wp2_with fail
 refine start_ (n:=13) (S:=fun w'=>w'.cell? ⟨bp,10,none⟩=some b8.vg) (ds:=[12]) #[false,false,false,false,false,false,false,false,false,false,false,false,false] (by kernel_rfl) rfl rfl (c10_8) (fun hHeld=>?_)
 refine pure_ (i:=0) (N:=some 44) (v:=?_) (a':=?_) #[true,false,false,false,false,false,false,false,false,false,false,false,false] rfl rfl (by kernel_rfl) (fun _ _ _ h=>h) (Or.inl ⟨by rfl,?_⟩) ?_ ?_
 rotate_left
 ·intro w'
  go_simp
  with_reducible rfl
 rotate_left
 ·simp only [Act.put,List.setIfInBounds_toArray,List.set_cons_zero,List.set_cons_succ,i64_w,i32_w]
  rfl
 refine pure_ (i:=1) (N:=some 45) (v:=?_) (a':=?_) #[true,true,false,false,false,false,false,false,false,false,false,false,false] rfl rfl (by kernel_rfl) (fun _ _ _ h=>h) (Or.inl ⟨by rfl,?_⟩) ?_ ?_
 rotate_left
 ·intro w'
  go_simp
  with_reducible rfl
 rotate_left
 ·simp only [Act.put,List.setIfInBounds_toArray,List.set_cons_zero,List.set_cons_succ,i64_w,i32_w]
  rfl
 refine pure_ (i:=2) (N:=some 46) (v:=?_) (a':=?_) #[true,true,true,false,false,false,false,false,false,false,false,false,false] rfl rfl (by kernel_rfl) (fun _ _ _ h=>h) (Or.inl ⟨by rfl,?_⟩) ?_ ?_
 rotate_left
 ·intro w'
  go_simp
  with_reducible rfl
 rotate_left
 ·simp only [Act.put,List.setIfInBounds_toArray,List.set_cons_zero,List.set_cons_succ,i64_w,i32_w]
  rfl
 refine pure_ (i:=3) (N:=some 47) (v:=?_) (a':=?_) #[true,true,true,true,false,false,false,false,false,false,false,false,false] rfl rfl (by kernel_rfl) (fun _ _ _ h=>h) (Or.inl ⟨by rfl,?_⟩) ?_ ?_
 rotate_left
 ·intro w'
  go_simp
  with_reducible rfl
 rotate_left
 ·simp only [Act.put,List.setIfInBounds_toArray,List.set_cons_zero,List.set_cons_succ,i64_w,i32_w]
  rfl
 refine pure_ (i:=5) (N:=some 49) (v:=?_) (a':=?_) #[true,true,true,true,false,true,false,false,false,false,false,false,false] rfl rfl (by kernel_rfl) (fun _ _ _ h=>h) (Or.inl ⟨by rfl,?_⟩) ?_ ?_
 rotate_left
 ·intro w'
  go_simp
  with_reducible rfl
 rotate_left
 ·simp only [Act.put,List.setIfInBounds_toArray,List.set_cons_zero,List.set_cons_succ,i64_w,i32_w]
  rfl
 refine pure_ (i:=6) (N:=some 50) (v:=?_) (a':=?_) #[true,true,true,true,false,true,true,false,false,false,false,false,false] rfl rfl (by kernel_rfl) (fun _ _ _ h=>h) (Or.inl ⟨by rfl,?_⟩) ?_ ?_
 rotate_left
 ·intro w'
  go_simp
  with_reducible rfl
 rotate_left
 ·simp only [Act.put,List.setIfInBounds_toArray,List.set_cons_zero,List.set_cons_succ,i64_w,i32_w]
  rfl
 refine take_ (i:=4) (N:=some 48) (v:=?_) (a':=?_) #[true,true,true,true,true,true,true,false,false,false,false,false,false] rfl rfl (by kernel_rfl) (fun _ _ _ h=>h) (Or.inl ⟨by rfl,?_⟩) hHeld ?_ ?_
 rotate_left
 ·intro w' s0
  go_simp
  with_reducible rfl
 rotate_left
 ·simp only [Act.put,List.setIfInBounds_toArray,List.set_cons_zero,List.set_cons_succ,i64_w,i32_w]
  rfl
 refine one_ (i:=7) (N:=some 51) #[true,true,true,true,true,true,true,true,false,false,false,false,false] rfl rfl (by kernel_rfl) (by decide) (fun K hK=>?_)
 refine goes_ Tryz.func77 (by kernel_rfl) rfl #[.pointer (some ⟨bp,0,none⟩),.agg #[.int .i64 17,.int .i64 0,.int .i64 0,.int .i64 0,.int .i64 0,.int .i64 0]] (by rfl) rfl rfl (by simp only [List.map_toArray,List.map_cons,List.map_nil];rfl) ?_
 with_reducible refine (put_any hM8.drew ⟨17,0,0,0,0,0⟩ (by omega)).mono ?_
 rintro e w9 ⟨rfl,foot9,hM9,hC⟩
 refine⟨_,rfl,?_⟩
 have hK9:=hK7.drew.step hC
 have hC9:=hC7.drew.trans hC
 have hB9:=hM8.drew.since hB7.drew hC
 have c10_9:w9.cell? ⟨bp,10,none⟩=some b8.vg:=hM9.c10
 refine hK.out _ _ (c10_9) (fun hHeld=>?_)
 clear hK K
 refine norm_ (a':=?_) ?_ ?_
 rotate_left
 ·show Act.put _ (some 51) _=_
  simp only [Act.put,List.setIfInBounds_toArray,List.set_cons_zero,List.set_cons_succ,i64_w,i32_w]
  rfl
 refine one_ (i:=8) (N:=some 52) #[true,true,true,true,true,true,true,true,true,false,false,false,false] rfl rfl (by kernel_rfl) (by decide) (fun K hK=>?_)
 go_simp
 refine hK.out _ _ (alloc_cell _ c10_9) (fun hHeld=>?_)
 clear hK K
 refine one_ (i:=9) (N:=some 53) #[true,true,true,true,true,true,true,true,true,true,false,false,false] rfl rfl (by kernel_rfl) (by decide) (fun K hK=>?_)
 refine step_append_lies _ (by rfl) (.tmp 48) (.tmp 52) _ (by rfl) W0.heap.size 3 j0 _ 1 8 Tryz.underlying86 hj0 jz0 jz1 jz2 rfl (by omega) b8.vg b8.givenUp.length (intsV b8.givenUp) (by rfl) (hM9.own10.alloc _)
  ⟨w9.heap.size,0,none⟩ 1 1 [.int .i64 (b8.out.length:Int)] (by rfl) (by rfl) (World.news_of_block (cs:= #[.int .i64 (b8.out.length:Int)]) (t:=3) (fr:=(0,0)) (heap_alloc_new w9 _)) (by simp [Value.oneCell'])
  (by omega) (by unfold maxLen;omega) (by omega) (by have:=hM9.bounds;simp;omega) (w9.heap.size+1) (by simp) ?_
 intro gg cap W1 hown hgrow hat hlt
 obtain⟨hbp,foot10,hM10,hC10⟩:=hM9.given (b8.out.length:Int) _ gg cap hown hgrow hat
 have c10_10:W1.cell? ⟨bp,10,none⟩=some b8.vg:=by rw [World.cell?_of_block hbp];exact c10_9
 obtain⟨cc,hcc⟩:=hM9.blk
 have f_10:=frozen_blk (hbp.trans hcc) 10
 have HM10:=Lib.hid hM10
 have HC10:=Lib.hid hC10
 have HK10:=Lib.hid (hK9.step hC10)
 have HB10:=Lib.hid (hM9.since hB9 hC10)
 clear hM10 hC10
 refine hK.out _ _ (c10_10) (fun hHeld=>?_)
 clear hK K
 refine norm_ (a':=?_) ?_ ?_
 rotate_left
 ·show Act.put _ (some 53) _=_
  simp only [Act.put,List.setIfInBounds_toArray,List.set_cons_zero,List.set_cons_succ,i64_w,i32_w]
  rfl
 refine pure_ (i:=10) (N:=some 54) (v:=?_) (a':=?_) #[true,true,true,true,true,true,true,true,true,true,true,false,false] rfl rfl (by kernel_rfl) (fun _ _ _ h=>h) (Or.inl ⟨by rfl,?_⟩) ?_ ?_
 rotate_left
 ·intro w'
  go_simp
  with_reducible rfl
 rotate_left
 ·simp only [Act.put,List.setIfInBounds_toArray,List.set_cons_zero,List.set_cons_succ,i64_w,i32_w]
  rfl
 refine pure_ (i:=11) (N:=some 55) (v:=?_) (a':=?_) #[true,true,true,true,true,true,true,true,true,true,true,true,false] rfl rfl (by kernel_rfl) (fun _ _ _ h=>h) (Or.inl ⟨by rfl,?_⟩) ?_ ?_
 rotate_left
 ·intro w'
  go_simp
  with_reducible rfl
 rotate_left
 ·simp only [Act.put,List.setIfInBounds_toArray,List.set_cons_zero,List.set_cons_succ,i64_w,i32_w]
  rfl
 refine last_ (i:=12) (N:=none) #[true,true,true,true,true,true,true,true,true,true,true,true,true] rfl rfl (by kernel_rfl) (by decide) (fun K hK=>?_)
 go_simp
 refine hK.out _ _ ?_
 clear hK K
 refine done_ (by kernel_rfl) ?_
 obtain⟨w10,hw10⟩:∃ w10,w10=W1.setCell ⟨bp,10,none⟩ (.slice (some ⟨gg,0,none⟩) (b8.givenUp.length+1) cap):=⟨_,rfl⟩
 rw [<-hw10]
 have hC10:Chg w w10 foot foot10:=by rw [hw10];exact hC9.trans HC10
 have hK10:SBox w10 foot10 ks s x6 x7:=by rw [hw10];exact HK10
 have hB10:Below W0.heap.size W0 w10:=by rw [hw10];exact HB10
 have hM10:Maker w10 W0.heap.size foot10 bp C _:=hw10 ▸ HM10
 clear HM10 HC10 HK10 HB10 hw10 hHeld hown hgrow hbp c10_10 f_10 hcc hM8 hM9 hK9 hC9 hB9 hK7 hC7 hB7 c10_8 c10_9 hat hlt
 obtain⟨b10,hb10⟩:∃ b10:Mk,b10={ b8.app [(⟨17,0,0,0,0,0⟩,Al.allSpan)] with givenUp:=b8.givenUp++[(b8.out.length:Int)],vg:= .slice (some ⟨gg,0,none⟩) (b8.givenUp.length+1) cap}:=⟨_,rfl⟩
 replace hM10:Maker w10 W0.heap.size foot10 bp C b10:=by rw [hb10];exact hM10
 have G10:Gen b8 [(⟨17,0,0,0,0,0⟩,Al.allSpan)] [] [b8.out.length] b10:=by rw [hb10];exact⟨rfl,rfl,by simp [Mk.app],by simp⟩
 replace G10:=G8.trans G10
 clear hb10
 have HL:=Gen.landed (l1:=Al.ci 1 ((2+deep:Nat):Int) 0 0 0 s.k :: (x++[Al.ci 15 12 0 0 0 (2+C.n * s.a)])) (i:=⟨19,0,12,0,0,0⟩) (sp:=Al.allSpan) (l2:=[(⟨4,2+(deep:Int),2+(deep:Int),1,0,0⟩,⟨0,s.k⟩),(⟨19,0,2+(deep:Int),0,0,(b.out.length:Int)+1⟩,Al.allSpan),(⟨17,0,0,0,0,0⟩,Al.allSpan)]) (G10.same (by simp) rfl rfl) C ((b.out.length:Int)+((x.length:Int)+1)+1) (by simp;omega) (by simp;omega) hM10
 go_wp2_with fail
 go_wp2_with (first|(go_at_call 78;refine (HL).mono ?_;rintro e w11 ⟨rfl,foot11,b11,G11,hM11,hC⟩;have hK11:=hK10.step hC;have hB11:=hM10.since hB10 hC;have hC11:=hC10.trans hC;clear hM10 hC10 hC hK10 hB10))
 refine bodyPost_end (v:= .tuple #[]) (by simp [results,Tryz.results75,go_sem]) rfl ⟨rfl,_,_,?_,hM11,hC11⟩
 have ep:=hE.place va
 have e8:b8.out.length=_:=E8
 refine G11.same ?_ (by simp) ?_
 ·simp [Al.ci,hd3,ep,hE.n]
  omega
 ·simp
  omega
end Go.Proofs.YtkplfaionpplaaaGreatDoor
