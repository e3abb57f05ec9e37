/- Part 11: B22, B23, B24, B25, P27, P28. -/
import Derived.Test.YtkplfaionpplaaaGreatDoorK10
import Derived.WalkMore
set_option maxRecDepth 100000
set_option maxHeartbeats 6400000
set_option linter.unusedVariables false
set_option linter.unusedSimpArgs false
namespace Go.Proofs.YtkplfaionpplaaaGreatDoor
open Go.RowKit Go.Proofs.YtkplfaionpplaaaGreatDoorW.PrintLast Go.Proofs.YtkplfaionpplaaaGreatDoorW.PrintWords
theorem goodL_get {E:Al.Env}{deep:Nat}:∀ {l:List Al.Stmt} (j:Nat) (h:j<l.length),Al.GoodL E deep l->Al.GoodS E deep l[j]
 |[],j,h,_=>by simp at h
 |s :: l,0,h,g=>by unfold Al.GoodL at g;exact g.1
 |s :: l,j+1,h,g=>by unfold Al.GoodL at g;exact goodL_get j (by simpa using h) g.2
theorem goodS_deep {E:Al.Env}{deep:Nat}{s:Al.Stmt}(h:Al.GoodS E deep s):deep<=6:=by
 cases s;unfold Al.GoodS at h;exact h.1
theorem rd_get (l:List Al.Stmt)(j:Nat)(h:j<l.length):rd_T902 l (j:Int)=l[j]:=by
 unfold rd_T902;simp [List.getD,h]
theorem genS_pos {E:Al.Env}{deep p:Nat}{s:Al.Stmt}(g:Al.GoodS E deep s):1<=(Al.genS E 0 0 deep p s).length:=by
 cases s with|mk op d a b c k body els=>
 unfold Al.GoodS at g
 obtain⟨_,⟨h,_⟩|⟨h,_⟩|⟨h,_⟩|g⟩:=g
 ·subst h;simp [Al.genS]
 ·subst h;simp [Al.genS]
 ·subst h;simp [Al.genS]
 ·have h:=g.op
  dsimp only at h
  have:op=1\/op=2\/op=3\/op=4\/op=5\/op=6\/op=7\/op=8\/op=9\/op=10\/op=11\/op=12\/op=13:=by omega
  rcases this with h|h|h|h|h|h|h|h|h|h|h|h|h<;> subst h<;> simp [Al.genS,Al.vecC,Al.eachC]
theorem genL_pos {E:Al.Env}{deep:Nat}:∀ (l:List Al.Stmt) (p:Nat),Al.GoodL E deep l->l.length<=(Al.genL E 0 0 deep p l).length
 |[],p,_=>by simp
 |s :: l,p,g=>by
  unfold Al.GoodL at g
  have h1:=genS_pos (p:=p) g.1
  have h2:=genL_pos l (p+(Al.genS E 0 0 deep p s).length) g.2
  simp only [Al.genL,List.length_append,List.length_cons]
  omega
theorem take_succ (l:List Al.Stmt)(j:Nat)(h:j<l.length):l.take (j+1)=l.take j++[l[j]]:=List.take_succ_eq_append_getElem h
theorem genL_one (E:Al.Env)(deep p:Nat)(s:Al.Stmt):Al.genL E 0 0 deep p [s]=Al.genS E 0 0 deep p s/\Al.posTL E deep p [s]=Al.posTS E deep p s/\Al.posGL E deep p [s]=Al.posGS E deep p s:=by
 simp [Al.genL,Al.posTL,Al.posGL]
theorem cell_since {W0 w:World}(hB:Below W0.heap.size W0 w){a:Addr}{v:Value}(h:W0.cell? a=some v):w.cell? a=some v:=by
 have hlt:a.block<W0.heap.size:=by
  refine Decidable.byContradiction fun hn=>?_
  have:W0.heap[a.block]?=none:=by rw [Array.getElem?_eq_none_iff];omega
  simp [World.cell?,this] at h
 rw [World.cell?_of_block (hB.block _ hlt)];exact h
def StmtPost (C:MkC)(E:Al.Env)(W0:World)(deep:Nat)(b:Mk)(s:Al.Stmt)(bp:Nat)(foot:Nat->Prop)(w:World)(e:Ending)(w2:World):Prop:=
 e= .returned (.tuple #[])/\∃ foot' b',Gen b (Al.genS E 0 0 deep b.out.length s) (Al.posTS E deep b.out.length s) (Al.posGS E deep b.out.length s) b'/\Maker w2 W0.heap.size foot' bp C b'/\Chg w w2 foot foot'
theorem call14 {C:MkC}{E:Al.Env}(R:Ready C E){W0:World}{deep:Nat}(hA:deep<=6->AllC C E W0 (deep+1))(s:Al.Stmt){A6 A7:Option Addr}{c6 c7:Nat}(l6:s.body.length<=c6)(g6:kStmt.C W0 A6 s.body.length s.body)(l7:s.els.length<=c7)(g7:kStmt.C W0 A7 s.els.length s.els)(gs:Al.GoodS E deep s)(b:Mk)(hl:b.out.length+(Al.genS E 0 0 deep b.out.length s).length<980000){w:World}{bp:Nat}{foot:Nat->Prop}(hB:Below W0.heap.size W0 w)(ht:b.tapeOut.length<=b.out.length)(hg:b.givenUp.length<=b.out.length)(hM:Maker w W0.heap.size foot bp C b)(hop:s.op=14):
  Calls Tryz.prog 73 #[.pointer (some ⟨bp,0,none⟩),.agg (stmtV s (.slice A6 s.body.length c6) (.slice A7 s.els.length c7)),.int .i64 deep] w (StmtPost C E W0 deep b s bp foot w):=by
 cases s with|mk op d a b' c k body els=>
 dsimp only at hop
 subst hop
 have hd:=goodS_deep gs
 unfold Al.GoodS at gs
 obtain⟨_,⟨_,va,gb,ge⟩|⟨h,_⟩|⟨h,_⟩|g⟩:=gs
 ·have hl2:b.out.length+2+(Al.genL E 0 0 (deep+1) (b.out.length+2) body).length+1+(Al.genL E 0 0 (deep+1) (b.out.length+2+(Al.genL E 0 0 (deep+1) (b.out.length+2) body).length+1) els).length<980000:=by
   simp only [Al.genS,if_true,List.length_append,List.length_cons,List.length_nil] at hl
   omega
  refine (branch_made R hd (hA hd) ⟨14,d,a,b',c,k,body,els⟩ l6 g6 l7 g7 va gb ge b _ _ rfl rfl hl2 hB ht hg hM).mono ?_
  rintro e w2 ⟨rfl,foot2,b2,G,hM2,hC2⟩
  refine⟨rfl,foot2,b2,?_,hM2,hC2⟩
  simp only [Al.genS,Al.posTS,Al.posGS,if_true]
  exact G
 ·exact absurd h (by decide)
 ·exact absurd h (by decide)
 ·exact absurd g.op (by dsimp only;omega)
theorem call15 {C:MkC}{E:Al.Env}(R:Ready C E){W0:World}{deep:Nat}(hA:deep<=6->AllC C E W0 (deep+1))(s:Al.Stmt){A6 A7:Option Addr}{c6 c7:Nat}(l6:s.body.length<=c6)(g6:kStmt.C W0 A6 s.body.length s.body)(l7:s.els.length<=c7)(g7:kStmt.C W0 A7 s.els.length s.els)(gs:Al.GoodS E deep s)(b:Mk)(hl:b.out.length+(Al.genS E 0 0 deep b.out.length s).length<980000){w:World}{bp:Nat}{foot:Nat->Prop}(hB:Below W0.heap.size W0 w)(ht:b.tapeOut.length<=b.out.length)(hg:b.givenUp.length<=b.out.length)(hM:Maker w W0.heap.size foot bp C b)(hop:s.op=15):
  Calls Tryz.prog 74 #[.pointer (some ⟨bp,0,none⟩),.agg (stmtV s (.slice A6 s.body.length c6) (.slice A7 s.els.length c7)),.int .i64 deep] w (StmtPost C E W0 deep b s bp foot w):=by
 cases s with|mk op d a b' c k body els=>
 dsimp only at hop
 subst hop
 have hd:=goodS_deep gs
 unfold Al.GoodS at gs
 obtain⟨_,⟨h,_⟩|⟨_,k0,k1,gb⟩|⟨h,_⟩|g⟩:=gs
 ·exact absurd h (by decide)
 ·have hl2:b.out.length+1+(Al.genL E 0 0 (deep+1) (b.out.length+1) body).length+2<980000:=by
   simp only [Al.genS,List.length_append,List.length_cons,List.length_nil] at hl
   simp at hl
   omega
  refine (times_made R hd (hA hd) ⟨15,d,a,b',c,k,body,els⟩ l6 g6 l7 g7 k0 k1 gb b _ rfl hl2 hB ht hg hM).mono ?_
  rintro e w2 ⟨rfl,foot2,b2,G,hM2,hC2⟩
  refine⟨rfl,foot2,b2,?_,hM2,hC2⟩
  simp only [Al.genS,Al.posTS,Al.posGS]
  exact G
 ·exact absurd h (by decide)
 ·exact absurd g.op (by dsimp only;omega)
theorem call16 {C:MkC}{E:Al.Env}(R:Ready C E){W0:World}{deep:Nat}(hA:deep<=6->AllC C E W0 (deep+1))(s:Al.Stmt){A6 A7:Option Addr}{c6 c7:Nat}(l6:s.body.length<=c6)(g6:kStmt.C W0 A6 s.body.length s.body)(l7:s.els.length<=c7)(g7:kStmt.C W0 A7 s.els.length s.els)(gs:Al.GoodS E deep s)(b:Mk)(hl:b.out.length+(Al.genS E 0 0 deep b.out.length s).length<980000){w:World}{bp:Nat}{foot:Nat->Prop}(hB:Below W0.heap.size W0 w)(ht:b.tapeOut.length<=b.out.length)(hg:b.givenUp.length<=b.out.length)(hM:Maker w W0.heap.size foot bp C b)(hop:s.op=16):
  Calls Tryz.prog 75 #[.pointer (some ⟨bp,0,none⟩),.agg (stmtV s (.slice A6 s.body.length c6) (.slice A7 s.els.length c7)),.int .i64 deep] w (StmtPost C E W0 deep b s bp foot w):=by
 cases s with|mk op d a b' c k body els=>
 dsimp only at hop
 subst hop
 have hd:=goodS_deep gs
 unfold Al.GoodS at gs
 obtain⟨_,⟨h,_⟩|⟨h,_⟩|⟨_,k0,k1,va,gb⟩|g⟩:=gs
 ·exact absurd h (by decide)
 ·exact absurd h (by decide)
 ·have hl2:b.out.length+1+(Al.genL E 0 0 (deep+1) (b.out.length+1) body).length+5<980000:=by
   simp only [Al.genS,List.length_append,List.length_cons,List.length_nil] at hl
   simp at hl
   omega
  refine (until_made R hd (hA hd) ⟨16,d,a,b',c,k,body,els⟩ l6 g6 l7 g7 va k0 k1 gb b _ rfl hl2 hB ht hg hM).mono ?_
  rintro e w2 ⟨rfl,foot2,b2,G,hM2,hC2⟩
  refine⟨rfl,foot2,b2,?_,hM2,hC2⟩
  simp only [Al.genS,Al.posTS,Al.posGS]
  exact G
 ·exact absurd g.op (by dsimp only;omega)
theorem callV {C:MkC}{E:Al.Env}(R:Ready C E){W0:World}{deep:Nat}(hA:deep<=6->AllC C E W0 (deep+1))(s:Al.Stmt){A6 A7:Option Addr}{c6 c7:Nat}(l6:s.body.length<=c6)(g6:kStmt.C W0 A6 s.body.length s.body)(l7:s.els.length<=c7)(g7:kStmt.C W0 A7 s.els.length s.els)(gs:Al.GoodS E deep s)(b:Mk)(hl:b.out.length+(Al.genS E 0 0 deep b.out.length s).length<980000){w:World}{bp:Nat}{foot:Nat->Prop}(hB:Below W0.heap.size W0 w)(ht:b.tapeOut.length<=b.out.length)(hg:b.givenUp.length<=b.out.length)(hM:Maker w W0.heap.size foot bp C b)(hop:s.op≠14/\s.op≠15/\s.op≠16):
  Calls Tryz.prog 76 #[.pointer (some ⟨bp,0,none⟩),.agg (stmtV s (.slice A6 s.body.length c6) (.slice A7 s.els.length c7))] w (StmtPost C E W0 deep b s bp foot w):=by
 cases s with|mk op d a b' c k body els=>
 dsimp only at hop
 have hp:=Al.posTS_le E ⟨op,d,a,b',c,k,body,els⟩ deep b.out.length
 unfold Al.GoodS at gs
 obtain⟨_,⟨h,_⟩|⟨h,_⟩|⟨h,_⟩|g⟩:=gs
 ·exact absurd h hop.1
 ·exact absurd h hop.2.1
 ·exact absurd h hop.2.2
 ·have g':Al.GoodV E ⟨op,d,a,b',c,k,body,els⟩:=⟨g.op,g.d,g.a,g.b,g.c,g.k6,g.k8,g.k11⟩
  refine (vector_made R b ⟨op,d,a,b',c,k,body,els⟩ _ _ g' (by omega) (by omega) hM).mono ?_
  rintro e w2 ⟨rfl,foot2,b2,G,hM2,hC2⟩
  refine⟨rfl,foot2,b2,?_,hM2,hC2⟩
  simp only [Al.genS,Al.posTS,Al.posGS,hop.1,hop.2.1,hop.2.2,if_false]
  exact G
theorem all_step {C:MkC}{E:Al.Env}(R:Ready C E){W0:World}{deep:Nat}(hA:deep<=6->AllC C E W0 (deep+1)):AllC C E W0 deep:=by
 intro l A cap hl0 hgood hcap b w bp foot hB hM hlen ht hg
 have hlp:=genL_pos l b.out.length hgood
 have HL:=Lib.hid hl0
 have HM:=Lib.hid hM
 have HB:=Lib.hid hB
 clear hl0 hM hB
 have hll:l.length<1000000:=by omega
 go_enter Tryz.func38,Tryz.ntmps38
 go_wp2_with fail
 go_step3
 go_wp2_with fail
 go_step3
 go_wp2_with fail
 go_loopg [7,10] (l.length+1) (fun gk v7 v10 w'=>∃ j:Nat,v10= .int .i64 j/\j+gk=l.length+1/\j<=l.length/\Hid (∃ foot' b',Gen b (Al.genL E 0 0 deep b.out.length (l.take j)) (Al.posTL E deep b.out.length (l.take j)) (Al.posGL E deep b.out.length (l.take j)) b'/\Maker w' W0.heap.size foot' bp C b'/\Chg w w' foot foot'))
 case atStart=>exact⟨0,rfl,by omega,by omega,show ∃ _ _,_ from⟨foot,b,Gen.refl b,HM,Chg.refl _ _⟩⟩
 case round=>
  obtain⟨j,rfl,hj,hj2,HI⟩:=hrel
  by_cases hjl:j<l.length
  ·obtain⟨foot1,b1,G1,hM1,hC1⟩:=show ∃ _ _,_ from HI
   obtain⟨k1,rfl⟩:∃ k1,gk=k1+1:=⟨gk - 1,by omega⟩
   have hB1:Below W0.heap.size W0 wr:=Maker.since HM HB hC1
   obtain⟨ad,A6,c6,A7,c7,rfl,d0,d1,d2,d3,d4,d5,d6,d7,l6,g6,l7,g7⟩:=at_T902 (show kStmt.C W0 A l.length l from HL) (j:Int) (by omega) (by omega)
   replace d0:=cell_since hB1 d0
   replace d1:=cell_since hB1 d1
   replace d2:=cell_since hB1 d2
   replace d3:=cell_since hB1 d3
   replace d4:=cell_since hB1 d4
   replace d5:=cell_since hB1 d5
   replace d6:=cell_since hB1 d6
   replace d7:=cell_since hB1 d7
   simp only [Int.toNat_natCast] at d0 d1 d2 d3 d4 d5 d6 d7
   obtain⟨s,hs⟩:∃ s,s=rd_T902 l (j:Int):=⟨_,rfl⟩
   simp only [<-hs] at d0 d1 d2 d3 d4 d5 d6 d7 l6 g6 l7 g7
   replace hs:=Lib.hid hs
   have hs':s=l[j]:=(show s=_ from hs).trans (rd_get l j hjl)
   have gs:Al.GoodS E deep s:=hs' ▸ goodL_get j hjl hgood
   have e1:=G1.len
   have t1:=G1.tlen
   have u1:=G1.glen
   have pt:=Al.posTL_le E (l.take j) deep b.out.length
   have pg:=Al.posGL_le E (l.take j) deep b.out.length
   have hsplit:(Al.genL E 0 0 deep b.out.length (l.take (j+1))).length=(Al.genL E 0 0 deep b.out.length (l.take j)).length+(Al.genS E 0 0 deep b1.out.length s).length:=by
    rw [take_succ l j hjl,Al.genL_append,List.length_append,(genL_one _ _ _ _).1,<-hs',<-e1]
   have hle:(Al.genL E 0 0 deep b.out.length (l.take (j+1))).length<=(Al.genL E 0 0 deep b.out.length l).length:=by
    conv=>rhs;rw [<-List.take_append_drop (j+1) l]
    rw [Al.genL_append,List.length_append];omega
   have hbw:Below wr.heap.size wr (wr.alloc (.cells (stmtV s (.slice A6 s.body.length c6) (.slice A7 s.els.length c7)) 66)):=(Below.refl _ _).alloc (Nat.le_refl _) _
   have hM1':=hM1.below hbw
   have hC1':=hC1.trans (Chg.of_below foot1 hbw)
   have hB1':=hM1.since hB1 (Chg.of_below foot1 hbw)
   have fin:∀ (w2:World) (foot2:Nat->Prop) (b2:Mk),Gen b1 (Al.genS E 0 0 deep b1.out.length s) (Al.posTS E deep b1.out.length s) (Al.posGS E deep b1.out.length s) b2->Maker w2 W0.heap.size foot2 bp C b2->Chg (wr.alloc (.cells (stmtV s (.slice A6 s.body.length c6) (.slice A7 s.els.length c7)) 66)) w2 foot1 foot2->
     Hid (∃ foot' b',Gen b (Al.genL E 0 0 deep b.out.length (l.take (j+1))) (Al.posTL E deep b.out.length (l.take (j+1))) (Al.posGL E deep b.out.length (l.take (j+1))) b'/\Maker w2 W0.heap.size foot' bp C b'/\Chg w w2 foot foot'):=by
    intro w2 foot2 b2 G2 hM2 hC2
    refine show ∃ _ _,_ from⟨foot2,b2,?_,hM2,hC1'.trans hC2⟩
    refine (G1.trans G2).same ?_ ?_ ?_
    ·rw [take_succ l j hjl,Al.genL_append,(genL_one _ _ _ _).1,<-hs',<-e1]
    ·rw [take_succ l j hjl,Al.posTL_append,(genL_one _ _ _ _).2.1,<-hs',<-e1]
    ·rw [take_succ l j hjl,Al.posGL_append,(genL_one _ _ _ _).2.2,<-hs',<-e1]
   have FIN:=Lib.hid fin
   have r0:(0:Int)<=(j:Int):=by omega
   have r1:(j:Int)<(l.length:Int):=by omega
   have r2:decide ((j:Int)<(l.length:Int))=true:=decide_eq_true r1
   by_cases h14:s.op=14
   ·have HS:=call14 R hA s l6 g6 l7 g7 gs b1 (by omega) hB1' (by omega) (by omega) hM1' h14
    clear fin hbw hM1' hC1' hB1' hM1 hC1 hB1 hsplit hle e1 t1 u1 pt pg hs' HI
    unfold stmtV at HS
    rw [h14] at HS d0
    go_wp2_with (first|(go_at_call 73;refine HS.mono ?_;rintro e w2 ⟨rfl,foot2,b2,G2,hM2,hC2⟩))
    have HN:=(show ∀ _ _ _,_->_->_->_ from FIN) w2 foot2 b2 G2 hM2 (by unfold stmtV;rw [h14];exact hC2)
    clear HS hM2 hC2 G2 d0 d1 d2 d3 d4 d5 d6 d7
    go_roundg k1
    case measure=>omega
    case rel=>exact⟨j+1,by simp,by omega,by omega,HN⟩
   by_cases h15:s.op=15
   ·have HS:=call15 R hA s l6 g6 l7 g7 gs b1 (by omega) hB1' (by omega) (by omega) hM1' h15
    clear fin hbw hM1' hC1' hB1' hM1 hC1 hB1 hsplit hle e1 t1 u1 pt pg hs' HI
    unfold stmtV at HS
    rw [h15] at HS d0
    go_wp2_with (first|(go_at_call 74;refine HS.mono ?_;rintro e w2 ⟨rfl,foot2,b2,G2,hM2,hC2⟩))
    have HN:=(show ∀ _ _ _,_->_->_->_ from FIN) w2 foot2 b2 G2 hM2 (by unfold stmtV;rw [h15];exact hC2)
    clear HS hM2 hC2 G2 d0 d1 d2 d3 d4 d5 d6 d7
    go_roundg k1
    case measure=>omega
    case rel=>exact⟨j+1,by simp,by omega,by omega,HN⟩
   by_cases h16:s.op=16
   ·have HS:=call16 R hA s l6 g6 l7 g7 gs b1 (by omega) hB1' (by omega) (by omega) hM1' h16
    clear fin hbw hM1' hC1' hB1' hM1 hC1 hB1 hsplit hle e1 t1 u1 pt pg hs' HI
    unfold stmtV at HS
    rw [h16] at HS d0
    go_wp2_with (first|(go_at_call 75;refine HS.mono ?_;rintro e w2 ⟨rfl,foot2,b2,G2,hM2,hC2⟩))
    have HN:=(show ∀ _ _ _,_->_->_->_ from FIN) w2 foot2 b2 G2 hM2 (by unfold stmtV;rw [h16];exact hC2)
    clear HS hM2 hC2 G2 d0 d1 d2 d3 d4 d5 d6 d7
    go_roundg k1
    case measure=>omega
    case rel=>exact⟨j+1,by simp,by omega,by omega,HN⟩
   have HS:=callV R hA s l6 g6 l7 g7 gs b1 (by omega) hB1' (by omega) (by omega) hM1' ⟨h14,h15,h16⟩
   clear fin hbw hM1' hC1' hB1' hM1 hC1 hB1 hsplit hle e1 t1 u1 pt pg hs' HI
   unfold stmtV at HS
   have z1:decide (s.op=14)=false:=decide_eq_false h14
   have z2:decide (s.op=15)=false:=decide_eq_false h15
   have z3:decide (s.op=16)=false:=decide_eq_false h16
   go_wp2_with (first|(go_at_call 76;refine HS.mono ?_;rintro e w2 ⟨rfl,foot2,b2,G2,hM2,hC2⟩))
   have HN:=(show ∀ _ _ _,_->_->_->_ from FIN) w2 foot2 b2 G2 hM2 hC2
   clear HS hM2 hC2 G2 d0 d1 d2 d3 d4 d5 d6 d7
   go_roundg k1
   case measure=>omega
   case rel=>exact⟨j+1,by simp,by omega,by omega,HN⟩
  ·have hje:j=l.length:=by omega
   have t1:decide ((j:Int)<(l.length:Int))=false:=by simp;omega
   go_wp2_with fail
   rw [Exit.noGoto_normal]
   refine bodyPost_end (v:= .tuple #[]) (by simp [results,Tryz.results38,go_sem]) rfl ⟨rfl,?_⟩
   have HI:=show ∃ _ _,_ from HI
   rw [hje,List.take_length] at HI
   exact HI
theorem all_made {C:MkC}{E:Al.Env}(R:Ready C E)(W0:World):∀ (m deep:Nat),deep+m=7->AllC C E W0 deep
 |0,deep,h=>all_step R fun h6=>absurd h6 (by omega)
 |m+1,deep,h=>all_step R fun _=>all_made R W0 m (deep+1) (by omega)
end Go.Proofs.YtkplfaionpplaaaGreatDoor
namespace Go.Proofs.YtkplfaionpplaaaGreatDoor
open Go.RowKit Go.Proofs.YtkplfaionpplaaaGreatDoorW.PrintLast
theorem own_slice {w:World}{base:Nat}{e:TypeId}{size:Nat}{v:Value}{n:Nat}{xs:List Value}(h:w.ownsRow base e size v n xs):∃ a cap,v= .slice a n cap:=by
 rcases h.2 with⟨h,h0⟩|⟨g,cap,cur,h,_⟩
 ·exact⟨none,0,by rw [h,h0]⟩
 ·exact⟨_,cap,h⟩
theorem own_ints {w:World}{base:Nat}{v:Value}{l:List Int}(h:w.ownsRow base 3 1 v l.length (intsV l)):IntsAt w v l:=by
 rcases h.2 with⟨hv,hn⟩|⟨g,cap,cur,rfl,h1,h2,h3⟩
 ·exact .inl ⟨hv,by simpa using hn⟩
 ·refine .inr ⟨g,cap,cur,rfl,h2,fun j hj=>?_⟩
  have hc:=h.cellAt j (by omega)
  rw [cell_blk h2] at hc
  rw [hc]
  simp [intsV,hj]
def endO (out:List Al.Inst)(ks:List Nat)(code:Int):List Al.Inst:=if ks=[] then out else Al.landL out ks out.length++[⟨20,0,0,0,0,code⟩]
def endS (ks:List Nat):List Al.Span:=if ks=[] then [] else [Al.allSpan]
def Mk.ended (b:Mk)(ks:List Nat)(code:Int):Mk:={ b with out:=endO b.out ks code,spans:=b.spans++endS ks}
theorem landL_len (out:List Al.Inst)(ks:List Nat)(v:Int):(Al.landL out ks v).length=out.length:=Al.landL_length out ks v
theorem endO_len (out:List Al.Inst)(ks:List Nat)(code:Int):out.length<=(endO out ks code).length/\(endO out ks code).length<=out.length+1:=by
 unfold endO;split
 ·omega
 ·simp [landL_len]
theorem ends_facts {w:World}{base bp:Nat}{foot:Nat->Prop}{C:MkC}{b:Mk}(hM:Maker w base foot bp C b){gp:List Nat}(hg:b.givenUp=gp.map Int.ofNat):
  ∃ a cap,w.cell? ⟨bp,10,none⟩=some (.slice a gp.length cap)/\IntsAt w (.slice a gp.length cap) (gp.map Int.ofNat):=by
 have hl:b.givenUp.length=gp.length:=by rw [hg];simp
 obtain⟨a,cap,hv⟩:=own_slice hM.own10
 refine⟨a,cap,by rw [hM.c10,hv,hl],?_⟩
 rw [<-hg,<-hl,<-hv];exact own_ints hM.own10
theorem ends_facts9 {w:World}{base bp:Nat}{foot:Nat->Prop}{C:MkC}{b:Mk}(hM:Maker w base foot bp C b){gp:List Nat}(hg:b.tapeOut=gp.map Int.ofNat):
  ∃ a cap,w.cell? ⟨bp,9,none⟩=some (.slice a gp.length cap)/\IntsAt w (.slice a gp.length cap) (gp.map Int.ofNat):=by
 have hl:b.tapeOut.length=gp.length:=by rw [hg];simp
 obtain⟨a,cap,hv⟩:=own_slice hM.own9
 refine⟨a,cap,by rw [hM.c9,hv,hl],?_⟩
 rw [<-hg,<-hl,<-hv];exact own_ints hM.own9
theorem ends_makes (C:MkC)(b:Mk)(tp gp:List Nat)(ht:b.tapeOut=tp.map Int.ofNat)(hg:b.givenUp=gp.map Int.ofNat)(htk:∀ k∈tp,k<b.out.length)(hgk:∀ k∈gp,k<b.out.length)(htl:tp.length<999000)(hgl:gp.length<999000)(hl:b.out.length<990000):Makes 40 [] C b ((b.ended tp 1).ended gp 2) (.tuple #[]):=by
 intro w base bp foot hM0
 obtain⟨at9,cap9,c9,I9⟩:=ends_facts9 hM0 ht
 obtain⟨at10,cap10,c10_0,I10_0⟩:=ends_facts hM0 hg
 have hg1:(b.ended tp 1).givenUp=gp.map Int.ofNat:=hg
 have lb:=endO_len b.out tp 1
 have lo:b.out.length<=(b.ended tp 1).out.length/\(b.ended tp 1).out.length<=b.out.length+1:=lb
 obtain⟨b1,hb1⟩:∃ b1:Mk,b1=b.ended tp 1:=⟨_,rfl⟩
 rw [<-hb1] at hg1 lo ⊢
 clear lb
 replace hg1:=Lib.hid hg1
 replace ht:=Lib.hid ht
 replace hg:=Lib.hid hg
 have hC0:=Chg.refl w foot
 go_enter Tryz.func40,Tryz.ntmps40
 by_cases htp:tp=[]
 ·have z:tp.length=0:=by rw [htp];rfl
  have e:b.ended tp 1=b:=by unfold Mk.ended endO endS;rw [if_pos htp,if_pos htp,List.append_nil]
  rw [e] at hb1
  subst hb1
  rw [z] at c9
  clear I9
  by_cases hgp:gp=[]
  ·have z10:gp.length=0:=by rw [hgp];rfl
   rw [z10] at c10_0
   go_wp2_with fail
   refine bodyPost_end (v:= .tuple #[]) (by simp [results,Tryz.results40,go_sem]) rfl ⟨rfl,_,?_,hC0⟩
   have e3:∀ b3:Mk,b3.ended gp 2=b3:=fun b3=>by unfold Mk.ended endO endS;rw [if_pos hgp,if_pos hgp,List.append_nil]
   rw [e3]
   exact hM0
  ·have y1:0<gp.length:=List.length_pos_iff.2 hgp
   have y2:decide (0<gp.length)=true:=decide_eq_true y1
   have y3:decide ((0:Int)<(gp.length:Int))=true:=by simp;omega
   go_wp2_with (first|(go_at_call 78;refine (land_any hM0 _ gp I10_0 (fun k hk=>Nat.lt_of_lt_of_le (hgk k hk) lo.1) (by omega) (by omega)).mono ?_;rintro e wg ⟨rfl,hMg,hCg⟩;have hCg':=hC0.trans hCg;clear hM0 hCg hC0 c10_0 I10_0))
   go_wp2_with (first|(go_at_call 39;refine (halt_makes C _ 2 (by show (Al.landL _ _ _).length<_;rw [landL_len];omega) _ _ _ _ hMg).mono ?_;rintro e wh ⟨rfl,fooh,hMh,hCh⟩;have hCh':=hCg'.trans hCh;clear hMg hCg' hCh))
   refine bodyPost_end (v:= .tuple #[]) (by simp [results,Tryz.results40,go_sem]) rfl ⟨rfl,_,?_,hCh'⟩
   have e3:∀ b3:Mk,b3.ended gp 2=Mk.app { b3 with out:=Al.landL b3.out gp b3.out.length} [Al.ci 20 0 0 0 0 2]:=fun b3=>by unfold Mk.ended endO endS;rw [if_neg hgp,if_neg hgp];rfl
   rw [e3]
   exact hMh
 ·have z2:0<tp.length:=List.length_pos_iff.2 htp
  have z3:decide (0<tp.length)=true:=decide_eq_true z2
  have z:decide ((0:Int)<(tp.length:Int))=true:=by simp;omega
  have e:b.ended tp 1=Mk.app { b with out:=Al.landL b.out tp b.out.length} [Al.ci 20 0 0 0 0 1]:=by unfold Mk.ended endO endS;rw [if_neg htp,if_neg htp];rfl
  rw [e] at hb1
  replace hb1:=Lib.hid hb1
  clear e I10_0 c10_0
  go_wp2_with (first|(go_at_call 78;refine (land_any hM0 _ tp I9 htk (by omega) (by omega)).mono ?_;rintro e w1 ⟨rfl,hM1,hC1⟩;clear hM0 c9 I9))
  by_cases hgp:gp=[]
  ·have z10:gp.length=0:=by rw [hgp];rfl
   go_wp2_with (first|(go_at_call 39;refine (halt_makes C _ 1 (by show (Al.landL _ _ _).length<_;rw [landL_len];omega) _ _ _ _ hM1).mono ?_;rintro e w2 ⟨rfl,foot2,hM2,hC2'⟩;rw [<-(show b1=_ from hb1)] at hM2;obtain⟨at2,cap2,c10_2,I10_2⟩:=ends_facts hM2 hg1;have hC2:=hC1.trans hC2';clear hM1 hC1 hC2' I10_2;rw [z10] at c10_2))
   refine bodyPost_end (v:= .tuple #[]) (by simp [results,Tryz.results40,go_sem]) rfl ⟨rfl,_,?_,hC2⟩
   have e3:∀ b3:Mk,b3.ended gp 2=b3:=fun b3=>by unfold Mk.ended endO endS;rw [if_pos hgp,if_pos hgp,List.append_nil]
   rw [e3]
   exact hM2
  ·have y1:0<gp.length:=List.length_pos_iff.2 hgp
   have y2:decide (0<gp.length)=true:=decide_eq_true y1
   have y3:decide ((0:Int)<(gp.length:Int))=true:=by simp;omega
   go_wp2_with (first|(go_at_call 39;refine (halt_makes C _ 1 (by show (Al.landL _ _ _).length<_;rw [landL_len];omega) _ _ _ _ hM1).mono ?_;rintro e w2 ⟨rfl,foot2,hM2,hC2'⟩;rw [<-(show b1=_ from hb1)] at hM2;obtain⟨at2,cap2,c10_2,I10_2⟩:=ends_facts hM2 hg1;have hC2:=hC1.trans hC2';clear hM1 hC1 hC2')|(go_at_call 78;refine (land_any hM2 _ gp I10_2 (fun k hk=>Nat.lt_of_lt_of_le (hgk k hk) lo.1) (by omega) (by omega)).mono ?_;rintro e wg ⟨rfl,hMg,hCg⟩;have hCg':=hC2.trans hCg;clear hM2 hCg hC2 c10_2 I10_2))
   go_wp2_with (first|(go_at_call 39;refine (halt_makes C _ 2 (by show (Al.landL _ _ _).length<_;rw [landL_len];omega) _ _ _ _ hMg).mono ?_;rintro e wh ⟨rfl,fooh,hMh,hCh⟩;have hCh':=hCg'.trans hCh;clear hMg hCg' hCh))
   refine bodyPost_end (v:= .tuple #[]) (by simp [results,Tryz.results40,go_sem]) rfl ⟨rfl,_,?_,hCh'⟩
   have e3:∀ b3:Mk,b3.ended gp 2=Mk.app { b3 with out:=Al.landL b3.out gp b3.out.length} [Al.ci 20 0 0 0 0 2]:=fun b3=>by unfold Mk.ended endO endS;rw [if_neg hgp,if_neg hgp];rfl
   rw [e3]
   exact hMh
def Mk.none:Mk:=⟨[],[],[],[],.slice Option.none 0 0,.slice Option.none 0 0⟩
theorem Maker.start {w:World}{base bp:Nat}{C:MkC}(h:w.heap[bp]?=some (C.blk (.slice none 0 0) (.slice none 0 0) (.slice none 0 0) (.slice none 0 0)))(hb:base<=bp):Maker w base (fun k=>k=bp) bp C Mk.none:=by
 have hlt:=blk_lt h
 refine⟨_,_,_,_,h,World.ownsRow_nil _ _ _ _,World.ownsRow_nil _ _ _ _,World.ownsRow_nil _ _ _ _,World.ownsRow_nil _ _ _ _,.inl rfl,hb,rfl,rfl,?_,?_,rfl,rfl⟩
 ·rintro k (h|h|h|h)<;> cases h
 ·rintro k rfl;exact⟨hb,hlt⟩
theorem begin_any {C:MkC}{E:Al.Env}(hE:CE C E){Ab:Option Addr}{nb capb:Nat}(hsb:C.sb= .slice Ab nb capb)(hsc:C.scratch=2+C.n * C.nv+4096)(hnb:nb<1000000){w:World}{base:Nat}(hbase:base<=w.heap.size):
  Calls Tryz.prog 37 #[.agg #[.int .i64 C.q,.int .i64 C.n,.slice C.va C.nv C.vcap,.slice Ab nb capb]] w fun e w'=>∃ bp foot,e= .returned (.pointer (some ⟨bp,0,none⟩))/\Maker w' base foot bp C (Mk.none.app (if nb=0 then [] else Al.beginC E))/\(∀ k,foot k->w.heap.size<=k)/\Below w.heap.size w w':=by
 have hC:=hE.ok
 have q0:=hC.q0
 have q1:=hC.q1
 have n0:=hC.n0
 have n1:=hC.n1
 have v1:=hC.v1
 have nn:0<=C.n * C.nv:=Int.mul_nonneg (by omega) (by omega)
 have nn2:C.n * C.nv<=256 * 12:=Int.mul_le_mul (by omega) (by omega) (by omega) (by omega)
 obtain⟨W,hW⟩:∃ W,W=w.alloc (.cells #[.int .i64 C.q,.int .i64 C.n,.slice C.va C.nv C.vcap,.slice Ab nb capb] 27):=⟨_,rfl⟩
 have hb0:Below w.heap.size w W:=by rw [hW];exact (Below.refl _ _).alloc (Nat.le_refl _) _
 have hWs:W.heap.size=w.heap.size+1:=by rw [hW];simp
 have b0:W.heap[w.heap.size]?=some (.cells #[.int .i64 C.q,.int .i64 C.n,.slice C.va C.nv C.vcap,.slice Ab nb capb] 27 (0,0)):=by rw [hW];exact heap_alloc_new w _
 obtain⟨kp,hkp⟩:∃ kp,kp=w.heap.size:=⟨_,rfl⟩
 go_enter Tryz.func37,Tryz.ntmps37
 go_wp2_with fail
 rw [<-hW]
 simp only [<-hkp] at b0 ⊢
 have d0:W.cell? ⟨kp,0,none⟩=some (.int .i64 C.q):=by rw [cell_blk b0];rfl
 have d1:W.cell? ⟨kp,1,none⟩=some (.int .i64 C.n):=by rw [cell_blk b0];rfl
 have d2:W.cell? ⟨kp,2,none⟩=some (.slice C.va C.nv C.vcap):=by rw [cell_blk b0];rfl
 have d3:W.cell? ⟨kp,3,none⟩=some (.slice Ab nb capb):=by rw [cell_blk b0];rfl
 have hkl:kp<W.heap.size:=blk_lt b0
 replace hWs:=Lib.hid hWs
 replace hkp:=Lib.hid hkp
 clear hW
 go_region_held3 (fun w'=>w'.cell? ⟨kp,0,none⟩=some (.int .i64 C.q)/\w'.cell? ⟨kp,1,none⟩=some (.int .i64 C.n)/\w'.cell? ⟨kp,2,none⟩=some (.slice C.va C.nv C.vcap)/\w'.cell? ⟨kp,3,none⟩=some (.slice Ab nb capb)) (go_keep) (first
  |(go_at_call 55;refine (end_any _ _ _ _ _ _ _ ⟨by omega,by omega⟩ v1).mono ?_;rintro e w1 ⟨rfl,hb1⟩;have k0:=cell_since hb1 (show W.drew.cell? _=_ from d0);have k1:=cell_since hb1 (show W.drew.cell? _=_ from d1);have k2:=cell_since hb1 (show W.drew.cell? _=_ from d2);have k3:=cell_since hb1 (show W.drew.cell? _=_ from d3);have y0:=World.new_ne _ _ k0;have y1:=World.new_ne _ _ k1;have y2:=World.new_ne _ _ k2;have y3:=World.new_ne _ _ k3))
 rw [IntWalk.i64_in (2+C.n * C.nv+4096) (by omega)]
 obtain⟨W2,hW2⟩:∃ W2,W2=w1.alloc (.cells #[.int .i64 C.q,.int .i64 C.n,.slice C.va C.nv C.vcap,.slice Ab nb capb,.int .i64 C.q,.int .i64 C.n,.slice none 0 0,.slice none 0 0,.int .i64 (2+C.n * C.nv+4096),.slice none 0 0,.slice none 0 0] 99):=⟨_,rfl⟩
 have s1:=hb1.size
 simp at s1
 have hws:W.heap.size=w.heap.size+1:=hWs
 have hkw:kp=w.heap.size:=hkp
 have hM0:Maker W2 base (fun k=>k=w1.heap.size) w1.heap.size C Mk.none:=by
  refine Maker.start ?_ (by omega)
  rw [hW2,MkC.blk,hsb,hsc]
  exact heap_alloc_new w1 _
 have hB2:Below w.heap.size w W2:=by
  rw [hW2]
  exact (hb0.trans (⟨hb1.os,hb1.tape,hb1.output,hb1.size,fun k hk=>hb1.block k (by simp;omega)⟩:Below w.heap.size W w1)).alloc (by omega) _
 have k3':W2.cell? ⟨kp,3,none⟩=some (.slice Ab nb capb):=by rw [hW2];exact alloc_cell _ k3
 obtain⟨bp,hbp⟩:∃ bp,bp=w1.heap.size:=⟨_,rfl⟩
 have hbw:w.heap.size<=bp:=by omega
 rw [<-hW2]
 simp only [<-hbp] at hM0 ⊢
 obtain⟨foot,hfoot⟩:∃ foot:Nat->Prop,foot=(fun k=>k=bp):=⟨_,rfl⟩
 have hfb:∀ k,foot k->w.heap.size<=k:=by rw [hfoot];rintro k rfl;exact hbw
 rw [<-hfoot] at hM0
 clear hW2 hbp hfoot hws hkw s1 k0 k1 k2 k3 y0 y1 y2 y3 hb1 b0 d0 d1 d2 d3 hb0 hkl hWs
 have hC0:=Chg.refl W2 foot
 by_cases hn0:nb=0
 ·subst hn0
  go_wp2_with fail
  refine bodyPost_ret (v:= .pointer (some ⟨bp,0,none⟩)) (by simp [results,Tryz.results37,go_sem]) rfl ⟨bp,rfl,foot,?_,hfb,hB2⟩
  simpa [Mk.app_nil] using hM0
 ·have t1:0<nb:=by omega
  have t2:decide (0<nb)=true:=decide_eq_true t1
  have t3:decide ((0:Int)<(nb:Int))=true:=by simp;omega
  go_wp2_with (first|(go_at_call 72;refine (constant_makes C _ 1 1 (by simp [Mk.none]) _ _ _ _ hM0).mono ?_;rintro e wa ⟨rfl,foota,hMa,hCa⟩;clear hM0;replace hCa:=hC0.trans hCa;have c5a:=hMa.cells.c5))
  go_wp2_with (first|(go_at_call 72;refine (constant_makes C _ 10 _ (by simp [Mk.none]) _ _ _ _ hMa).mono ?_;rintro e wb ⟨rfl,footb,hMb,hCb⟩;clear hMa c5a;replace hCb:=hCa.trans hCb;have c4b:=hMb.cells.c4))
  go_wp2_with (first|(go_at_call 72;refine (constant_makes C _ 19 _ (by simp [Mk.none]) _ _ _ _ hMb).mono ?_;rintro e wc ⟨rfl,footc,hMc,hCc⟩;clear hMb c4b;replace hCc:=hCb.trans hCc;have c4c:=hMc.cells.c4))
  have u1:IntKind.u64.wrap C.q=C.q:=by unfold IntKind.wrap;simp [IntKind.bits,IntKind.signed];omega
  have u2:¬C.q=0:=by omega
  have u3:(C.q == 0)=false:=by simp;omega
  have u4:(18446744073709551615:Int).tdiv C.q=18446744073709551615 / C.q:=Int.tdiv_eq_ediv_of_nonneg (by omega)
  have u5:0<=(18446744073709551615:Int) / C.q:=Int.ediv_nonneg (by omega) (by omega)
  have u6:(18446744073709551615:Int) / C.q<=1085102592571150095:=by
   have h1:=Int.mul_ediv_self_le (x:=18446744073709551615) (k:=C.q) (by omega)
   have h2:=Int.mul_le_mul_of_nonneg_right (show (17:Int)<=C.q by omega) u5
   omega
  have u7:IntKind.i64.wrap (18446744073709551615 / C.q)=18446744073709551615 / C.q:=IntWalk.i64_in _ (by omega)
  go_wp2_with (first|(go_at_call 72;refine (constant_makes C _ 20 _ (by simp [Mk.none]) _ _ _ _ hMc).mono ?_;rintro e wd ⟨rfl,footd,hMd,hCd⟩;clear hMc c4c;replace hCd:=hCc.trans hCd))
  refine bodyPost_ret (v:= .pointer (some ⟨bp,0,none⟩)) (by simp [results,Tryz.results37,go_sem]) rfl ⟨bp,rfl,footd,?_,fun k hk=>(hCd.foot k hk).elim (hfb k) (fun h=>Nat.le_trans hB2.size h),hB2.trans (hCd.below hfb hB2.size)⟩
  have u8:wrap64 (18446744073709551615 / (E.q:Int))=18446744073709551615 / (E.q:Int):=by rw [<-hE.q];unfold wrap64;omega
  simpa [Mk.app_app,Al.beginC,hE.q,hE.n,hn0,u8] using hMd
theorem insts_one (l:List Al.Inst):∀ u∈instsV l,u.oneCell'=true:=by
 intro u hu
 obtain⟨i,hi,hu⟩:=List.mem_flatMap.1 hu
 simp only [instCells,List.mem_cons,List.not_mem_nil,or_false] at hu
 rcases hu with rfl|rfl|rfl|rfl|rfl|rfl<;> rfl
theorem own_news {w:World}{base:Nat}{e:TypeId}{size:Nat}{v:Value}{n:Nat}{xs:List Value}(h:w.ownsRow base e size v n xs)(hn:0<n):
  ∃ g cap,v= .slice (some ⟨g,0,none⟩) n cap/\g<w.heap.size/\∀ j u,xs[j]?=some u->w.cell? ((⟨g,0,none⟩:Addr).add j)=some u:=by
 rcases h.2 with⟨_,h0⟩|⟨g,cap,cur,rfl,h1,h2,h3,h4,h5,h6⟩
 ·omega
 ·refine⟨g,cap,rfl,blk_lt h2,fun j u hu=>World.news_of_block h2 j u ?_⟩
  rw [<-h6,List.getElem?_take] at hu
  split at hu
  ·exact hu
  ·cases hu
theorem clone_any {w:World}{base:Nat}{v:Value}{l:List Al.Inst}(hown:w.ownsRow base 97 6 v l.length (instsV l))(hl:0<l.length)(hlen:l.length<1000000):
  Calls Tryz.prog 41 #[v] w fun e w'=>∃ v',e= .returned v'/\w'.ownsRow w.heap.size 97 6 v' l.length (instsV l)/\Below w.heap.size w w':=by
 obtain⟨i0,hi0,hz0,hz1,hz2⟩:=info_parts Tryz.infoInst
 obtain⟨g,cap,rfl,hg,hnews⟩:=own_news hown hl
 have hb:Below w.heap.size w (w.alloc (.cells #[] 97)):=(Below.refl _ _).alloc (Nat.le_refl _) _
 have hnews2:∀ j u,(instsV l)[j]?=some u->(w.alloc (.cells #[] 97)).cell? ((⟨g,0,none⟩:Addr).add j)=some u:=fun j u hu=>alloc_cell _ (hnews j u hu)
 have hown2:(w.alloc (.cells #[] 97)).ownsRow w.heap.size 97 6 (.slice (some ⟨w.heap.size,0,none⟩) 0 0) 0 []:=⟨rfl,.inr ⟨w.heap.size,0,#[],rfl,Nat.le_refl _,heap_alloc_new _ _,by omega,by simp [maxLen],rfl,rfl⟩⟩
 have he:∀ w:World,(binOp .eql 39 (.slice (some ⟨g,0,none⟩) l.length cap) (.slice none 0 0)).run Tryz.prog w= .ok (.bool false) w:=fun _=>rfl
 go_enter Tryz.func41,Tryz.ntmps41
 go_wp2_with (first|(at_builtin;(refine wpList_append_own_at _ rfl (.tmp 5) (.tmp 6) 39 rfl w.heap.size 97 i0 _ 6 48 Tryz.underlying39 hi0 hz0 hz1 hz2 rfl (by omega) _ 0 [] rfl hown2 ⟨g,0,none⟩ l.length cap (instsV l) rfl (insts_len l) hnews2 (insts_one l) (by unfold maxLen;omega) (by omega) (by simp) ?_;intro v2 w2 hown3 hgrow hnil hat)))
 have hb':Below w.heap.size w w2:=by
  refine⟨hgrow.os.trans hb.os,hgrow.tape.trans hb.tape,hgrow.output.trans hb.output,Nat.le_trans hb.size hgrow.size,fun k hk=>?_⟩
  rw [hgrow.block k (by simp;omega) (fun h=>absurd hk (by cases h;exact Nat.lt_irrefl _)),heap_alloc_old _ _ hk]
 refine bodyPost_ret (v:=v2) (by simp [results,Tryz.results41,go_sem]) rfl ⟨v2,rfl,by simpa using hown3,hb'⟩
end Go.Proofs.YtkplfaionpplaaaGreatDoor
namespace Go.Proofs.YtkplfaionpplaaaGreatDoor.Al
mutual
theorem posTS_nil (E:Env):∀ (s:Stmt) (deep p:Nat),posTS E deep p s=[] ↔ drawsS s=false
 |⟨op,d,a,b,e,k,body,els⟩,deep,p=>by
  have h1:=posTL_nil E body (deep+1) (p+2)
  have h3:=posTL_nil E body (deep+1) (p+1)
  have h2:=posTL_nil E els (deep+1) (p+2+(genL E 0 0 (deep+1) (p+2) body).length+1)
  unfold posTS drawsS
  by_cases h14:op=14
  ·subst h14;simp [h1,h2]
  ·by_cases h15:op=15
   ·subst h15;simp [h3]
   ·by_cases h16:op=16
    ·subst h16;simp [h3]
    ·by_cases h13:op=13
     ·subst h13;simp
     ·simp [h13,h14,h15,h16]
theorem posTL_nil (E:Env):∀ (l:List Stmt) (deep p:Nat),posTL E deep p l=[] ↔ drawsL l=false
 |[],_,_=>by simp [posTL,drawsL]
 |s :: l,deep,p=>by
  have h1:=posTS_nil E s deep p
  have h2:=posTL_nil E l deep (p+(genS E 0 0 deep p s).length)
  simp only [posTL,drawsL,List.append_eq_nil_iff,h1,h2,Bool.or_eq_false_iff]
end
mutual
theorem posGS_nil (E:Env):∀ (s:Stmt) (deep p:Nat),posGS E deep p s=[] ↔ untilsS s=false
 |⟨op,d,a,b,e,k,body,els⟩,deep,p=>by
  have h1:=posGL_nil E body (deep+1) (p+2)
  have h3:=posGL_nil E body (deep+1) (p+1)
  have h2:=posGL_nil E els (deep+1) (p+2+(genL E 0 0 (deep+1) (p+2) body).length+1)
  unfold posGS untilsS
  by_cases h14:op=14
  ·subst h14;simp [h1,h2]
  ·by_cases h15:op=15
   ·subst h15;simp [h3]
   ·by_cases h16:op=16
    ·subst h16;simp
    ·simp [h14,h15,h16]
theorem posGL_nil (E:Env):∀ (l:List Stmt) (deep p:Nat),posGL E deep p l=[] ↔ untilsL l=false
 |[],_,_=>by simp [posGL,untilsL]
 |s :: l,deep,p=>by
  have h1:=posGS_nil E s deep p
  have h2:=posGL_nil E l deep (p+(genS E 0 0 deep p s).length)
  simp only [posGL,untilsL,List.append_eq_nil_iff,h1,h2,Bool.or_eq_false_iff]
end
theorem vecC_spans (E:Env)(p T T':Nat)(s:Stmt):spansOf (vecC E p T s)=spansOf (vecC E p T' s):=by
 by_cases h:s.op=13
 ·simp only [vecC,h];rfl
 ·have e:vecC E p T s=vecC E p T' s:=by unfold vecC;simp only [h,if_false]
  rw [e]
theorem spansOf_append (a b:List CI):spansOf (a++b)=spansOf a++spansOf b:=by simp [spansOf]
theorem spansOf_cons (x:CI)(b:List CI):spansOf (x :: b)=x.2 :: spansOf b:=rfl
mutual
theorem spans_stmt (E:Env)(T G T' G':Nat):∀ (s:Stmt) (deep p:Nat),spansOf (genS E T G deep p s)=spansOf (genS E T' G' deep p s)
 |⟨op,d,a,b,e,k,body,els⟩,deep,p=>by
  have h1:=spans_list E T G T' G' body (deep+1) (p+2)
  have h3:=spans_list E T G T' G' body (deep+1) (p+1)
  have l1:=len_list E T G T' G' body (deep+1) (p+2)
  have l3:=len_list E T G T' G' body (deep+1) (p+1)
  have h2:=spans_list E T G T' G' els (deep+1) (p+2+(genL E T' G' (deep+1) (p+2) body).length+1)
  unfold genS
  split
  ·dsimp only
   rw [l1]
   simp only [spansOf_append,spansOf_cons,h1,h2]
   rfl
  ·split
   ·simp only [spansOf_append,spansOf_cons,h3]
   ·split
    ·dsimp only
     simp only [spansOf_append,spansOf_cons,h3]
     rfl
    ·exact vecC_spans _ _ _ _ _
theorem spans_list (E:Env)(T G T' G':Nat):∀ (l:List Stmt) (deep p:Nat),spansOf (genL E T G deep p l)=spansOf (genL E T' G' deep p l)
 |[],_,_=>by simp [genL]
 |s :: l,deep,p=>by
  have h1:=spans_stmt E T G T' G' s deep p
  have l1:=len_stmt E T G T' G' s deep p
  simp only [genL,spansOf_append,h1,l1]
  rw [spans_list E T G T' G' l deep _]
end
def endI (out:List Inst)(ks:List Nat)(code:Int):List Inst:=if ks=[] then out else landL out ks out.length++[⟨20,0,0,0,0,code⟩]
def preC (E:Env)(body:List Stmt):List CI:=if body.isEmpty then [] else beginC E
theorem preC_len (E:Env)(body:List Stmt):(preC E body).length=bodyP body:=by
 unfold preC bodyP;split<;> rfl
theorem landT_id (E:Env)(G T:Nat)(deep p:Nat)(l:List Stmt)(h:posTL E deep p l=[]):insts (genL E 0 G deep p l)=insts (genL E T G deep p l):=by
 have:=landT_list E G T l deep p (List.replicate p ⟨0,0,0,0,0,0⟩) [] (by simp)
 rw [h] at this
 simpa [landL] using this
theorem landG_id (E:Env)(T G:Nat)(deep p:Nat)(l:List Stmt)(h:posGL E deep p l=[]):insts (genL E T 0 deep p l)=insts (genL E T G deep p l):=by
 have:=landG_list E T G l deep p (List.replicate p ⟨0,0,0,0,0,0⟩) [] (by simp)
 rw [h] at this
 simpa [landL] using this
theorem end_T (E:Env)(G T:Nat)(body:List Stmt)(A B:List Inst)(hA:A.length=bodyP body)(hT:T=(A++(insts (genL E 0 G 0 (bodyP body) body)++B)).length):
  endI (A++(insts (genL E 0 G 0 (bodyP body) body)++B)) (posTL E 0 (bodyP body) body) 1=A++(insts (genL E T G 0 (bodyP body) body)++(B++(if drawsL body then [⟨20,0,0,0,0,1⟩] else []))):=by
 unfold endI
 by_cases h:posTL E 0 (bodyP body) body=[]
 ·have hd:=(posTL_nil E body 0 (bodyP body)).1 h
  rw [if_pos h,landT_id E G T 0 _ _ h,hd]
  simp
 ·have hd:drawsL body=true:=by
   cases hx:drawsL body with
   |true=>rfl
   |false=>exact absurd ((posTL_nil E body 0 (bodyP body)).2 hx) h
  rw [if_neg h,<-hT,landT_list E G T body 0 (bodyP body) A B hA,hd]
  simp
theorem end_G (E:Env)(T G:Nat)(body:List Stmt)(A B:List Inst)(hA:A.length=bodyP body)(hG:G=(A++(insts (genL E T 0 0 (bodyP body) body)++B)).length):
  endI (A++(insts (genL E T 0 0 (bodyP body) body)++B)) (posGL E 0 (bodyP body) body) 2=A++(insts (genL E T G 0 (bodyP body) body)++(B++(if untilsL body then [⟨20,0,0,0,0,2⟩] else []))):=by
 unfold endI
 by_cases h:posGL E 0 (bodyP body) body=[]
 ·have hd:=(posGL_nil E body 0 (bodyP body)).1 h
  rw [if_pos h,landG_id E T G 0 _ _ h,hd]
  simp
 ·have hd:untilsL body=true:=by
   cases hx:untilsL body with
   |true=>rfl
   |false=>exact absurd ((posGL_nil E body 0 (bodyP body)).2 hx) h
  rw [if_neg h,<-hG,landG_list E T G body 0 (bodyP body) A B hA,hd]
  simp
theorem end_prog (E:Env)(body:List Stmt)(len:Nat)(hlen:len=bodyP body+(genL E 0 0 0 (bodyP body) body).length):
  endI (endI (insts (preC E body)++(insts (genL E 0 0 0 (bodyP body) body)++[⟨20,0,0,0,0,0⟩])) (posTL E 0 (bodyP body) body) 1) (posGL E 0 (bodyP body) body) 2=
   insts (progC E body (outT len) (outG len body)):=by
 have hp:(insts (preC E body)).length=bodyP body:=by rw [insts_length,preC_len]
 rw [end_T E 0 (outT len) body _ _ hp (by simp [insts_length,preC_len,outT,hlen];omega)]
 rw [end_G E (outT len) (outG len body) body _ _ hp (by
  have:=len_list E (outT len) 0 0 0 body 0 (bodyP body)
  simp only [List.length_append,insts_length,preC_len,this,outG,List.length_cons,List.length_nil]
  split<;> simp<;> omega)]
 unfold progC endC
 rw [insts_append,insts_append,insts_cons]
 have e:insts ((if drawsL body=true then [ci 20 0 0 0 0 1] else [])++if untilsL body=true then [ci 20 0 0 0 0 2] else [])=(if drawsL body=true then [(⟨20,0,0,0,0,1⟩:Inst)] else [])++(if untilsL body=true then [(⟨20,0,0,0,0,2⟩:Inst)] else []):=by
  cases drawsL body<;> cases untilsL body<;> rfl
 rw [e]
 unfold preC
 simp [List.append_assoc,ci]
theorem end_spans (E:Env)(body:List Stmt)(T G:Nat):spansOf (preC E body)++(spansOf (genL E 0 0 0 (bodyP body) body)++([allSpan]++((if posTL E 0 (bodyP body) body=[] then [] else [allSpan])++(if posGL E 0 (bodyP body) body=[] then [] else [allSpan]))))=spansOf (progC E body T G):=by
 unfold progC endC
 rw [spansOf_append,spansOf_append,spansOf_cons,spansOf_append,spans_list E T G 0 0]
 have h1:(if posTL E 0 (bodyP body) body=[] then [] else [allSpan])=spansOf (if drawsL body=true then [ci 20 0 0 0 0 1] else []):=by
  have:=posTL_nil E body 0 (bodyP body)
  cases hx:drawsL body with
  |true=>rw [if_neg (fun h=>by rw [this.1 h] at hx;cases hx)];rfl
  |false=>rw [if_pos (this.2 hx)];rfl
 have h2:(if posGL E 0 (bodyP body) body=[] then [] else [allSpan])=spansOf (if untilsL body=true then [ci 20 0 0 0 0 2] else []):=by
  have:=posGL_nil E body 0 (bodyP body)
  cases hx:untilsL body with
  |true=>rw [if_neg (fun h=>by rw [this.1 h] at hx;cases hx)];rfl
  |false=>rw [if_pos (this.2 hx)];rfl
 rw [h1,h2]
 rfl
mutual
theorem posTS_lt (E:Env):∀ (s:Stmt) (deep p k:Nat),k∈posTS E deep p s->k<p+(genS E 0 0 deep p s).length
 |⟨op,d,a,b,e,kk,body,els⟩,deep,p,k=>by
  have h1:=posTL_lt E body (deep+1) (p+2) k
  have h3:=posTL_lt E body (deep+1) (p+1) k
  have h2:=posTL_lt E els (deep+1) (p+2+(genL E 0 0 (deep+1) (p+2) body).length+1) k
  unfold posTS genS
  by_cases h14:op=14
  ·subst h14
   simp only [if_true,List.mem_append,List.length_append,List.length_cons,List.length_nil]
   rintro (h|h)
   ·have:=h1 h;omega
   ·have:=h2 h;omega
  ·by_cases h15:op=15
   ·subst h15
    simp only [show¬(15:Int)=14 by decide,if_false,if_true,List.length_append,List.length_cons,List.length_nil]
    intro h;have:=h3 h;omega
   ·by_cases h16:op=16
    ·subst h16
     simp only [show¬(16:Int)=14 by decide,show¬(16:Int)=15 by decide,if_false,if_true,List.length_append,List.length_cons,List.length_nil]
     intro h;have:=h3 h;omega
    ·by_cases h13:op=13
     ·subst h13
      simp [vecC,eachC,drawB];omega
     ·simp [h13,h14,h15,h16]
theorem posTL_lt (E:Env):∀ (l:List Stmt) (deep p k:Nat),k∈posTL E deep p l->k<p+(genL E 0 0 deep p l).length
 |[],_,_,_=>by simp [posTL]
 |s :: l,deep,p,k=>by
  have h1:=posTS_lt E s deep p k
  have h2:=posTL_lt E l deep (p+(genS E 0 0 deep p s).length) k
  simp only [posTL,genL,List.mem_append,List.length_append]
  rintro (h|h)
  ·have:=h1 h;omega
  ·have:=h2 h;omega
end
mutual
theorem posGS_lt (E:Env):∀ (s:Stmt) (deep p k:Nat),k∈posGS E deep p s->k<p+(genS E 0 0 deep p s).length
 |⟨op,d,a,b,e,kk,body,els⟩,deep,p,k=>by
  have h1:=posGL_lt E body (deep+1) (p+2) k
  have h3:=posGL_lt E body (deep+1) (p+1) k
  have h2:=posGL_lt E els (deep+1) (p+2+(genL E 0 0 (deep+1) (p+2) body).length+1) k
  unfold posGS genS
  by_cases h14:op=14
  ·subst h14
   simp only [if_true,List.mem_append,List.length_append,List.length_cons,List.length_nil]
   rintro (h|h)
   ·have:=h1 h;omega
   ·have:=h2 h;omega
  ·by_cases h15:op=15
   ·subst h15
    simp only [show¬(15:Int)=14 by decide,if_false,if_true,List.length_append,List.length_cons,List.length_nil]
    intro h;have:=h3 h;omega
   ·by_cases h16:op=16
    ·subst h16
     simp only [show¬(16:Int)=14 by decide,show¬(16:Int)=15 by decide,if_false,if_true,List.mem_append,List.mem_singleton,List.length_append,List.length_cons,List.length_nil]
     rintro (h|h)
     ·have:=h3 h;omega
     ·omega
    ·simp [h14,h15,h16]
theorem posGL_lt (E:Env):∀ (l:List Stmt) (deep p k:Nat),k∈posGL E deep p l->k<p+(genL E 0 0 deep p l).length
 |[],_,_,_=>by simp [posGL]
 |s :: l,deep,p,k=>by
  have h1:=posGS_lt E s deep p k
  have h2:=posGL_lt E l deep (p+(genS E 0 0 deep p s).length) k
  simp only [posGL,genL,List.mem_append,List.length_append]
  rintro (h|h)
  ·have:=h1 h;omega
  ·have:=h2 h;omega
end
end Go.Proofs.YtkplfaionpplaaaGreatDoor.Al
