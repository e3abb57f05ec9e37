/- Part 24: B65, B66, B56, B57. -/
import Derived.Test.YtkplfaionpplaaaGreatDoorK23
import Derived.Shelf.Bits.Mul64
import Derived.Laws.Bits64b
set_option linter.unusedVariables false
set_option linter.unusedSimpArgs false
namespace Go.Proofs.YtkplfaionpplaaaGreatDoor
open Go.RowKit Go.Proofs.YtkplfaionpplaaaGreatDoorW.PrintWords
def breaksI (vars : List Al.Var) : List Al.Stmt → Int → List Int
  | [], _ => []
  | s :: l, i => if Al.breaksB vars s = true then i :: breaksI vars l (i + 1) else breaksI vars l (i + 1)
theorem breaksI_snoc (vars : List Al.Var) : ∀ (l : List Al.Stmt) (s : Al.Stmt) (i : Int), breaksI vars (l ++ [s]) i = breaksI vars l i ++ (if Al.breaksB vars s = true then [i + l.length] else [])
  | [], s, i => by simp only [List.nil_append, breaksI, List.length_nil]; split <;> simp
  | x :: l, s, i => by
    simp only [List.cons_append, breaksI, breaksI_snoc vars l s (i + 1), List.length_cons]
    have e : i + 1 + (l.length : Int) = i + ((l.length + 1 : Nat) : Int) := by omega
    rw [e]
    split <;> simp
theorem breaksI_len (vars : List Al.Var) : ∀ (l : List Al.Stmt) (i : Int), (breaksI vars l i).length ≤ l.length
  | [], i => by simp [breaksI]
  | x :: l, i => by simp only [breaksI, List.length_cons]; have := breaksI_len vars l (i + 1); split <;> (try simp only [List.length_cons]) <;> omega
theorem firstF_breaks (vars : List Al.Var) : ∀ (l : List Al.Stmt) (i : Int), Al.firstF (fun s => if Al.breaksB vars s then 108 else 0) l i = (match breaksI vars l i with | [] => Al.Fault.fine | j :: _ => Al.Fault.at_ 108 j)
  | [], i => rfl
  | s :: l, i => by
    unfold Al.firstF breaksI
    cases Al.breaksB vars s with
    | true => rfl
    | false => simp only [Bool.false_eq_true, if_false, ne_eq, not_true]; exact firstF_breaks vars l (i + 1)
theorem valid_parts {p : Al.Prog} (h : (Al.validF p).code = 0) : (∀ s ∈ Al.flatL p.body, Al.oneF p.q p.vars s = 0) ∧ p.vars.length ≤ 12 := by
  unfold Al.validF at h
  by_cases h1 : (!Al.ringOk p.q p.n) = true
  · rw [if_pos h1] at h; simp [Al.Fault.bare] at h
  rw [if_neg h1] at h
  by_cases h2 : p.vars.length > 12
  · rw [if_pos h2] at h; simp [Al.Fault.bare] at h
  rw [if_neg h2] at h
  by_cases h3 : (Al.firstK p.vars 0).code ≠ 0
  · rw [if_pos h3] at h; exact absurd h h3
  rw [if_neg h3] at h
  by_cases h4 : (Al.flatL p.body).length > 100 ∨ Al.depthL p.body > 6
  · rw [if_pos h4] at h; simp [Al.Fault.bare] at h
  rw [if_neg h4] at h
  exact ⟨Al.firstF_fine _ _ h, by omega⟩
theorem field_code (w0 : World) (c q : Int) (b : Bool) : Sem.run Tryz.prog (Instr.field 36 (.agg #[.int .i64 c, .bool b, .int .i64 q]) 0) w0 = Result.ok (.int .i64 c) w0 := by kernel_rfl
theorem keep_box {w w' : World} {base : Nat} {e t : TypeId} {size : Nat} {v : Value} {n : Nat} {xs : List Value} {k : Nat} {c : Array Value} (h : w.ownsRow base e size v n xs) (hk : w.heap[k]? = some (.cells c t (0, 0))) (ht : t ≠ e) (hg : w' = w ∨ w.grownBy w' v.ownBlock) : w'.heap[k]? = some (.cells c t (0, 0)) := by
  rcases hg with rfl | hg
  · exact hk
  · exact grow_blk hg hk (own_ne_blk h hk ht)
theorem keep_rowS {W0 w w' : World} {base b2 : Nat} {v u : Value} {n : Nat} {xs : List Value} {L : List Al.Stmt} (h : w.ownsRow base 3 1 v n xs) (hr : RowS W0 w b2 u L) (hg : w' = w ∨ w.grownBy w' v.ownBlock) : RowS W0 w' b2 u L := by
  obtain ⟨cs, ho, hc⟩ := hr
  refine ⟨cs, own_of ho fun k hk => ?_, hc⟩
  obtain ⟨c, hcc⟩ := own_type ho hk
  rw [keep_box h hcc (by decide) hg, hcc]
theorem valid_lit {w : World} {p : Al.Prog} {Va Ab : Option Addr} {vc cb : Nat} (hp : PLies w p Va Ab vc cb) (hfl : (Al.flatL p.body).length ≤ 100) (hvl0 : p.vars.length ≤ 1000) :
    Calls Tryz.prog 49 #[.agg #[.int .i64 p.q, .int .i64 p.n, .slice Va p.vars.length vc, .slice Ab p.body.length cb]] w fun e w' => e = .returned (.agg #[.int .i64 (Al.validF p).code, .bool (Al.validF p).placed, .int .i64 (Al.validF p).pos]) ∧ Below w.heap.size w w' := ref_valid hp hfl hvl0
set_option maxRecDepth 100000 in
set_option maxHeartbeats 3200000 in
theorem ref_all {w : World} {p : Al.Prog} {Va Ab : Option Addr} {vc cb : Nat} (hp : PLies w p Va Ab vc cb) (hfl : (Al.flatL p.body).length ≤ 100) (hv0 : (Al.validF p).code = 0) :
    Calls Tryz.prog 50 #[.agg #[.int .i64 p.q, .int .i64 p.n, .slice Va p.vars.length vc, .slice Ab p.body.length cb]] w fun e w' => ∃ v, e = .returned v ∧ w'.ownsRow w.heap.size 3 1 v (breaksI p.vars (Al.flatL p.body) 0).length (intsV (breaksI p.vars (Al.flatL p.body) 0)) ∧ Below w.heap.size w w' := by
  obtain ⟨j0, hj0, jz0, jz1, jz2⟩ := info_parts Tryz.infoInt
  obtain ⟨hone, hvl⟩ := valid_parts hv0
  obtain ⟨W, hW⟩ : ∃ W, W = w.alloc (.cells #[.int .i64 p.q, .int .i64 p.n, .slice Va p.vars.length vc, .slice Ab p.body.length cb] 27) := ⟨_, rfl⟩
  have hb0 : Below w.heap.size w W := by rw [hW]; exact (Below.refl _ _).alloc (Nat.le_refl _) _
  obtain ⟨kp, hkp⟩ : ∃ kp, kp = w.heap.size := ⟨_, rfl⟩
  have P0 : PBox W kp p Va Ab vc cb := by rw [hW, hkp]; exact heap_alloc_new w _
  have HV := valid_lit (hp.below hb0) hfl (by omega)
  have hdl := depthL_lt p.body
  have HFl := fun W0 hb => flat_all (W0 := w) 101 p.body Ab cb (by omega) hp.b (by omega) W0 hb
  obtain ⟨FL, hFL⟩ : ∃ FL, FL = Al.flatL p.body := ⟨_, rfl⟩
  have hfl2 : FL.length ≤ 100 := by rw [hFL]; exact hfl
  rw [← hFL] at HFl hone ⊢
  obtain ⟨K, hK⟩ : ∃ K, K = breaksI p.vars FL 0 := ⟨_, rfl⟩
  rw [← hK]
  replace hK := Lib.hid hK
  have hFLh := Lib.hid hFL
  have HP := Lib.hid hp
  have HOne := Lib.hid hone
  rw [hv0] at HV
  obtain ⟨vp, hvp⟩ : ∃ vp, vp = (Al.validF p).placed := ⟨_, rfl⟩
  obtain ⟨vq, hvq⟩ : ∃ vq, vq = (Al.validF p).pos := ⟨_, rfl⟩
  rw [← hvp, ← hvq] at HV
  have z0 : ((0 : Int) != 0) = false := by decide
  have hfd := fun w0 => field_code w0 0 vq vp
  obtain ⟨p0, p1, p2, p3⟩ := P0.cells
  clear hdl hFL hp hone hv0 hvp hvq hfl
  go_enter Tryz.func50, Tryz.ntmps50
  go_wp2_with fail
  rw [← hW]
  simp only [← hkp]
  replace hkp := Lib.hid hkp
  clear hW
  go_wp2_with (first
    | (go_at_call 49; refine HV.mono ?_; rintro e w1 ⟨rfl, hb1⟩; have P1 : PBox w1 kp p Va Ab vc cb := below_blk hb1 P0 (blk_lt P0); have hb2 := hb0.trans (lower_below hb1 hb0.size); obtain ⟨r0', r1', r2', r3'⟩ := P1.cells; clear p0 p1 p2 p3)
    | (go_at_call 20; refine (HFl _ hb2).mono ?_; rintro e w3 ⟨vf, rfl, hrow, hb3⟩; obtain ⟨fa, fc, rfl⟩ := rowS_slice hrow; have P3 : PBox w3 kp p Va Ab vc cb := below_blk hb3 P1 (blk_lt P1); have hb4 := hb2.trans (lower_below hb3 hb2.size)))
  obtain ⟨rb, hrb⟩ : ∃ rb, rb = w1.heap.size := ⟨_, rfl⟩
  have HH : Hid (PBox w3 kp p Va Ab vc cb ∧ Below w.heap.size w w3 ∧ RowS w w3 rb (.slice fa FL.length fc) FL ∧ w.heap.size ≤ rb ∧ rb ≤ w3.heap.size) := Lib.hid ⟨P3, hb4, by rw [hrb]; exact hrow, by rw [hrb]; exact hb2.size, by rw [hrb]; exact hb3.size⟩
  clear hrow hb3 hb4 P3 P1 hb1 hb2 r0' r1' r2' r3' HFl HV hb0 P0 hrb
  obtain ⟨B, hB⟩ : ∃ B, B = w3.heap.size := ⟨_, rfl⟩
  have HH2 : Hid (PBox w3 kp p Va Ab vc cb ∧ Below w.heap.size w w3 ∧ RowS w w3 rb (.slice fa FL.length fc) FL ∧ w.heap.size ≤ B ∧ B ≤ w3.heap.size ∧ Below B w3 w3) := by
    obtain ⟨h1, h2, h3, h4, h5⟩ := show _ ∧ _ from HH
    exact Lib.hid ⟨h1, h2, h3, by omega, by omega, Below.refl _ _⟩
  clear HH
  replace hB := Lib.hid hB
  go_loopg [4, 5] (FL.length + 1) (fun gk v4 v5 w' => ∃ i : Nat, v5 = .int .i64 i ∧ i + gk = FL.length + 1 ∧ i ≤ FL.length ∧ Hid (w'.ownsRow B 3 1 v4 (breaksI p.vars (FL.take i) 0).length (intsV (breaksI p.vars (FL.take i) 0))) ∧ Hid (PBox w' kp p Va Ab vc cb ∧ Below w.heap.size w w' ∧ RowS w w' rb (.slice fa FL.length fc) FL ∧ w.heap.size ≤ B ∧ B ≤ w'.heap.size ∧ Below B w3 w'))
  case atStart => exact ⟨0, rfl, by omega, by omega, Lib.hid (World.ownsRow_nil _ _ _ _), HH2⟩
  case round =>
    obtain ⟨i, rfl, hg, hi2, HO, HW⟩ := hrel
    have hown := show wr.ownsRow B 3 1 u4 (breaksI p.vars (FL.take i) 0).length (intsV (breaksI p.vars (FL.take i) 0)) from HO
    obtain ⟨P1, hbb, hrow, hB1, hB2, hB3⟩ := show PBox wr kp p Va Ab vc cb ∧ Below w.heap.size w wr ∧ RowS w wr rb (.slice fa FL.length fc) FL ∧ w.heap.size ≤ B ∧ B ≤ wr.heap.size ∧ Below B w3 wr from HW
    clear HH2 HO HW
    obtain ⟨p0, p1, p2, p3⟩ := P1.cells
    by_cases hil : i < FL.length
    · obtain ⟨k1, rfl⟩ : ∃ k1, gk = k1 + 1 := ⟨gk - 1, by omega⟩
      obtain ⟨gf, A6, c6, A7, c7, hfa, -, -, -, -, d0, d1, d2, d3, d4, d5, d6, d7⟩ := rowS_get hrow hil
      obtain ⟨s, hs⟩ : ∃ s, s = FL[i] := ⟨_, rfl⟩
      have hnx : breaksI p.vars (FL.take (i + 1)) 0 = breaksI p.vars (FL.take i) 0 ++ (if Al.breaksB p.vars s = true then [(i : Int)] else []) := by
        rw [List.take_succ_eq_append_getElem hil, breaksI_snoc, List.length_take, Nat.min_eq_left (by omega), hs]; simp
      have ho := (show ∀ s ∈ FL, Al.oneF p.q p.vars s = 0 from HOne) s (by rw [hs]; exact List.getElem_mem hil)
      rw [← hs] at d0 d1 d2 d3 d4 d5 d6 d7
      clear hs
      obtain ⟨g, hg1, hg2, -, -⟩ := Al.oneF_parts ho
      have HBr := ref_breaks (w := wr.drew) ((show PLies w p Va Ab vc cb from HP).below (below_drew' hbb)) s (.slice A6 s.body.length c6) (.slice A7 s.els.length c7) hg1 (fun v hv => hg2 v (List.mem_append_left _ hv)) (fun hd => hg2 _ (by rw [if_pos hd]; simp))
      unfold progV stmtV at HBr
      clear ho hg1 hg2
      obtain ⟨bs, hbs⟩ : ∃ bs, bs = Al.breaksB p.vars s := ⟨_, rfl⟩
      rw [← hbs] at HBr hnx
      clear hbs
      subst hfa
      have hkl : (breaksI p.vars (FL.take i) 0).length ≤ 100 := by have := breaksI_len p.vars (FL.take i) 0; have := List.length_take_le i FL; omega
      have r0 : (0 : Int) ≤ (i : Int) := by omega
      have r1 : (i : Int) < (FL.length : Int) := by omega
      have r2 : decide ((i : Int) < (FL.length : Int)) = true := decide_eq_true r1
      have HRw := Lib.hid hrow
      have HOw := Lib.hid hown
      clear hrow hown
      cases bs
      · rw [if_neg (by decide), List.append_nil] at hnx
        go_wp2_with fail
        go_still_tail 5, (by kernel_rfl)
        go_wp2_with (first | (go_at_call 88; refine HBr.mono ?_; rintro e w2 ⟨rfl, hb2⟩; replace hb2 := undrew hb2))
        have hown := show wr.ownsRow B 3 1 u4 (breaksI p.vars (FL.take i) 0).length (intsV (breaksI p.vars (FL.take i) 0)) from HOw
        have HN : Hid (w2.ownsRow B 3 1 u4 (breaksI p.vars (FL.take (i + 1)) 0).length (intsV (breaksI p.vars (FL.take (i + 1)) 0))) := by rw [hnx]; exact Lib.hid (own_of hown fun k hk => hb2.block k (hown.lt k hk).2)
        have HN2 : Hid (PBox w2 kp p Va Ab vc cb ∧ Below w.heap.size w w2 ∧ RowS w w2 rb (.slice (some ⟨gf, 0, none⟩) FL.length fc) FL ∧ w.heap.size ≤ B ∧ B ≤ w2.heap.size ∧ Below B w3 w2) := Lib.hid ⟨below_blk hb2 P1 (blk_lt P1), hbb.trans (lower_below hb2 hbb.size), (show RowS w wr rb (.slice (some ⟨gf, 0, none⟩) FL.length fc) FL from HRw).below hb2, hB1, Nat.le_trans hB2 hb2.size, hB3.trans (lower_below hb2 hB2)⟩
        clear hown hnx hb2 P1 hbb d0 d1 d2 d3 d4 d5 d6 d7 HBr HRw HOw
        go_roundg k1
        case measure => omega
        case rel => exact ⟨i + 1, by simp, by omega, by omega, HN, HN2⟩
      · rw [if_pos rfl] at hnx
        go_wp2_with fail
        go_still_tail 5, (by kernel_rfl)
        obtain ⟨L, hL⟩ : ∃ L, L = breaksI p.vars (FL.take i) 0 := ⟨_, rfl⟩
        have hown := show wr.ownsRow B 3 1 u4 (breaksI p.vars (FL.take i) 0).length (intsV (breaksI p.vars (FL.take i) 0)) from HOw
        rw [← hL] at hown hnx hkl
        replace hnx := Lib.hid hnx
        replace hL := Lib.hid hL
        have HOw2 := Lib.hid hown
        clear hown HOw
        go_wp2_with (first
          | (go_at_call 88; refine HBr.mono ?_; rintro e w2 ⟨rfl, hb2⟩; replace hb2 := undrew hb2; have hown := show wr.ownsRow B 3 1 u4 L.length (intsV L) from HOw2; have own2 := own_of hown fun k hk => hb2.block k (hown.lt k hk).2; have own1 := own2.alloc (.cells #[.int .i64 i] 3); have hB4 : B ≤ w2.heap.size := Nat.le_trans hB2 hb2.size; have src1 := row_one w2 hB4 (.int .i64 i) 3; have hrw2 := (show RowS w wr rb (.slice (some ⟨gf, 0, none⟩) FL.length fc) FL from HRw).below hb2; have hb3 := hbb.trans (lower_below hb2 hbb.size); have P2 : PBox w2 kp p Va Ab vc cb := below_blk hb2 P1 (blk_lt P1); have hB5 := hB3.trans (lower_below hb2 hB2); clear hown)
          | (at_builtin; refine append_row rfl (.tmp 25) (.tmp 27) 86 rfl B 3 j0 _ 1 8 Tryz.underlying86 hj0 jz0 jz1 jz2 rfl (by omega) _ _ _ rfl own1 B _ _ _ rfl src1 (by intro u hu; rw [List.mem_singleton.1 hu]; rfl) (by unfold maxLen; omega) (by omega) (by simp; omega) ?_; intro v1 w5 hown5 hgrow5))
        have hbx := keep_box own1 (alloc_blk (.cells #[.int .i64 i] 3) P2) (by decide) hgrow5
        have hrw5 := keep_rowS own1 (hrw2.below ((Below.refl _ _).alloc (Nat.le_refl _) _)) hgrow5
        have hb6 := below_grown2 (hb3.alloc hb3.size (.cells #[.int .i64 i] 3)) hgrow5 (fun k hk => Nat.le_trans hB1 (own1.lt k hk).1) (by have := hb3.size; simp; omega)
        have hb7 := below_grown2 (hB5.alloc hB4 (.cells #[.int .i64 i] 3)) hgrow5 (fun k hk => (own1.lt k hk).1) (by simp; omega)
        have hsz5 : B ≤ w5.heap.size := by rcases hgrow5 with h | h; rw [h]; simp; omega; have := h.size; simp at this; omega
        have HN : Hid (w5.ownsRow B 3 1 v1 (breaksI p.vars (FL.take (i + 1)) 0).length (intsV (breaksI p.vars (FL.take (i + 1)) 0))) := by
          rw [show breaksI p.vars (FL.take (i + 1)) 0 = _ from hnx]
          exact Lib.hid (by simpa [intsV] using hown5)
        have HN2 : Hid (PBox w5 kp p Va Ab vc cb ∧ Below w.heap.size w w5 ∧ RowS w w5 rb (.slice (some ⟨gf, 0, none⟩) FL.length fc) FL ∧ w.heap.size ≤ B ∧ B ≤ w5.heap.size ∧ Below B w3 w5) := Lib.hid ⟨hbx, hb6, hrw5, hB1, hsz5, hb7⟩
        clear hown5 hgrow5 hbx hrw5 hb6 hb7 hsz5 own1 own2 src1 hrw2 hb3 P2 hB4 hB5 hb2 P1 hbb d0 d1 d2 d3 d4 d5 d6 d7 HBr HRw HOw2
        go_roundg k1
        case measure => omega
        case rel => exact ⟨i + 1, by simp, by omega, by omega, HN, HN2⟩
    · have hie : i = FL.length := by omega
      have t9 : decide ((i : Int) < (FL.length : Int)) = false := by simp; omega
      rw [show FL.take i = FL by rw [hie, List.take_length], ← (show K = _ from hK)] at hown
      go_wp2_with fail
      exact bodyPost_ret (v := u4) (by simp [results, Tryz.results50, go_sem]) rfl ⟨_, rfl, own_base hown hB1, hbb⟩
set_option maxRecDepth 100000 in
set_option maxHeartbeats 3200000 in
theorem ref_check {w : World} {p : Al.Prog} {Va Ab : Option Addr} {vc cb : Nat} (hp : PLies w p Va Ab vc cb) (hfl : (Al.flatL p.body).length ≤ 100) (hvl0 : p.vars.length ≤ 1000) :
    Calls Tryz.prog 19 #[.agg #[.int .i64 p.q, .int .i64 p.n, .slice Va p.vars.length vc, .slice Ab p.body.length cb]] w fun e w' => e = .returned (.agg #[.int .i64 (Al.checkF p).code, .bool (Al.checkF p).placed, .int .i64 (Al.checkF p).pos]) ∧ Below w.heap.size w w' := by
  obtain ⟨R, hR⟩ : ∃ R, R = Al.checkF p := ⟨_, rfl⟩
  rw [← hR]
  obtain ⟨W, hW⟩ : ∃ W, W = (w.alloc (.cells #[.int .i64 p.q, .int .i64 p.n, .slice Va p.vars.length vc, .slice Ab p.body.length cb] 27)).alloc (.cells #[.int .i64 0, .bool false, .int .i64 0] 36) := ⟨_, rfl⟩
  have hb0 : Below w.heap.size w W := by rw [hW]; exact alloc_two _ _ _
  obtain ⟨kp, hkp⟩ : ∃ kp, kp = w.heap.size := ⟨_, rfl⟩
  have V0 : VB W kp (kp + 1) p Va Ab vc cb := by rw [hW, hkp]; exact ⟨alloc_blk _ (heap_alloc_new w _), alloc_at _ _ _⟩
  have HV := valid_lit (hp.below hb0) hfl hvl0
  have HAll := fun (h0 : (Al.validF p).code = 0) (W0 : World) (hb : Below w.heap.size w W0) => ref_all (hp.below hb) hfl h0
  have hbf := firstF_breaks p.vars (Al.flatL p.body) 0
  have hbl := breaksI_len p.vars (Al.flatL p.body) 0
  obtain ⟨BI, hBI⟩ : ∃ BI, BI = breaksI p.vars (Al.flatL p.body) 0 := ⟨_, rfl⟩
  rw [← hBI] at hbf hbl
  simp only [← hBI] at HAll
  clear hBI
  unfold Al.checkF at hR
  rw [hbf] at hR
  clear hbf
  obtain ⟨vf, hvf⟩ : ∃ vf, vf = Al.validF p := ⟨_, rfl⟩
  rw [← hvf] at hR HV
  simp only [← hvf] at HAll
  clear hvf hp
  obtain ⟨p0, p1, p2, p3⟩ := V0.p.cells
  have hkr : w.heap.size ≤ kp + 1 := by omega
  go_enter Tryz.func19, Tryz.ntmps19
  go_wp2_with fail
  rw [← hW]
  simp only [← hkp]
  replace hkp := Lib.hid hkp
  clear hW
  by_cases hz : vf.code = 0
  · have HA := HAll hz
    rw [if_neg (by omega)] at hR
    have zz : (vf.code != 0) = false := by rw [hz]; rfl
    have hzh := Lib.hid hz
    clear HAll hz
    cases BI with
    | nil =>
      have hRv := Lib.hid hR
      clear hR hbl
      go_wp2_with (first
        | (go_at_call 49; refine HV.mono ?_; rintro e w1 ⟨rfl, hb1⟩; have V1 := V0.below hb1; have hb2 := hb0.trans (lower_below hb1 hb0.size); have V1a := V1.below ((Below.refl w1.heap.size w1).alloc (Nat.le_refl _) (.cells #[.int .i64 vf.code, .bool vf.placed, .int .i64 vf.pos] 36)); have hb2a := hb2.alloc hb2.size (.cells #[.int .i64 vf.code, .bool vf.placed, .int .i64 vf.pos] 36); obtain ⟨r0, r1, r2, r3⟩ := V1a.p.cells)
        | (go_at_call 50; refine (HA _ hb2a).mono ?_; rintro e w3 ⟨v, rfl, hown, hb3⟩; obtain ⟨va, vcc, rfl⟩ := own_slice hown; have V3 := V1a.below hb3; have hb4 := hb2a.trans (lower_below hb3 hb2a.size))
        | (go_at_call 52; refine (none_lit _).mono ?_; rintro e w9 ⟨rfl, hb9⟩; have I9 := V3.below hb9; obtain ⟨z0, z1, z2, y0, y1, y2⟩ := I9.facts; have hb10 := hb4.trans (lower_below hb9 hb4.size); have F9 := set3 I9.r (.int .i64 0) (.bool false) (.int .i64 0)))
      refine gen_world (Q := fun W => bodyPost _ _ _ _ _ W) _ (fun W => W.heap[kp + 1]? = some (.cells #[.int .i64 0, .bool false, .int .i64 0] 36 (0, 0)) ∧ Below w.heap.size w W) ⟨F9, below_set3 hb10 hkr⟩ ?_
      clear F9 hb10 hb9 I9 z0 z1 z2 y0 y1 y2
      rintro W9 ⟨F, HB⟩
      have c0 : W9.cell? ⟨kp + 1, 0, none⟩ = some (.int .i64 0) := (cell_blk F _).trans rfl
      have c1 : W9.cell? ⟨kp + 1, 1, none⟩ = some (.bool false) := (cell_blk F _).trans rfl
      have c2 : W9.cell? ⟨kp + 1, 2, none⟩ = some (.int .i64 0) := (cell_blk F _).trans rfl
      exact bodyPost_ret (v := .agg #[.int .i64 0, .bool false, .int .i64 0]) (by simp [results, Tryz.results19, go_sem, c0, c1, c2]) rfl ⟨by rw [show R = _ from hRv]; rfl, HB⟩
    | cons j L =>
      have hRv := Lib.hid hR
      have HPl := fun w0 => placed_lit w0 108 j (by decide)
      have tl2 : (0 : Int) < ((j :: L).length : Int) := by simp only [List.length_cons]; omega
      have tl : decide ((0 : Int) < ((j :: L).length : Int)) = true := decide_eq_true tl2
      obtain ⟨nl, hnl⟩ : ∃ nl, nl = (j :: L).length := ⟨_, rfl⟩
      have hnlh := Lib.hid hnl
      rw [← hnl] at tl tl2
      clear hR hbl hnl
      go_wp2_with (first
        | (go_at_call 49; refine HV.mono ?_; rintro e w1 ⟨rfl, hb1⟩; have V1 := V0.below hb1; have hb2 := hb0.trans (lower_below hb1 hb0.size); have V1a := V1.below ((Below.refl w1.heap.size w1).alloc (Nat.le_refl _) (.cells #[.int .i64 vf.code, .bool vf.placed, .int .i64 vf.pos] 36)); have hb2a := hb2.alloc hb2.size (.cells #[.int .i64 vf.code, .bool vf.placed, .int .i64 vf.pos] 36); obtain ⟨r0, r1, r2, r3⟩ := V1a.p.cells)
        | (go_at_call 50; refine (HA _ hb2a).mono ?_; rintro e w3 ⟨v, rfl, hown, hb3⟩; obtain ⟨va, vcc, rfl⟩ := own_slice hown; obtain ⟨ga, rfl, ca⟩ := ints_get (own_ints hown) (j := 0) (by simp); replace ca : w3.cell? ⟨ga, 0, none⟩ = some (.int .i64 j) := ca; rw [← (show nl = _ from hnlh)]; have V3 := V1a.below hb3; have hb4 := hb2a.trans (lower_below hb3 hb2a.size))
        | (go_at_call 51; refine (HPl _).mono ?_; rintro e w9 ⟨rfl, hb9⟩; have I9 := V3.below hb9; obtain ⟨z0, z1, z2, y0, y1, y2⟩ := I9.facts; have hb10 := hb4.trans (lower_below hb9 hb4.size); have F9 := set3 I9.r (.int .i64 108) (.bool true) (.int .i64 j)))
      refine gen_world (Q := fun W => bodyPost _ _ _ _ _ W) _ (fun W => W.heap[kp + 1]? = some (.cells #[.int .i64 108, .bool true, .int .i64 j] 36 (0, 0)) ∧ Below w.heap.size w W) ⟨F9, below_set3 hb10 hkr⟩ ?_
      clear F9 hb10 hb9 I9 z0 z1 z2 y0 y1 y2
      rintro W9 ⟨F, HB⟩
      have c0 : W9.cell? ⟨kp + 1, 0, none⟩ = some (.int .i64 108) := (cell_blk F _).trans rfl
      have c1 : W9.cell? ⟨kp + 1, 1, none⟩ = some (.bool true) := (cell_blk F _).trans rfl
      have c2 : W9.cell? ⟨kp + 1, 2, none⟩ = some (.int .i64 j) := (cell_blk F _).trans rfl
      exact bodyPost_ret (v := .agg #[.int .i64 108, .bool true, .int .i64 j]) (by simp [results, Tryz.results19, go_sem, c0, c1, c2]) rfl ⟨by rw [show R = _ from hRv]; rfl, HB⟩
  · rw [if_pos hz] at hR
    have zz : (vf.code != 0) = true := by simp [hz]
    have zz' : (vf.code == 0) = false := by simp [hz]
    have hRv := Lib.hid hR
    clear hR HAll hz
    go_wp2_with (first
      | (go_at_call 49; refine HV.mono ?_; rintro e w1 ⟨rfl, hb1⟩; have V1 := V0.below hb1; have hb2 := hb0.trans (lower_below hb1 hb0.size); have V1a := V1.below ((Below.refl w1.heap.size w1).alloc (Nat.le_refl _) (.cells #[.int .i64 vf.code, .bool vf.placed, .int .i64 vf.pos] 36)); have hb10 := hb2.alloc hb2.size (.cells #[.int .i64 vf.code, .bool vf.placed, .int .i64 vf.pos] 36); obtain ⟨z0, z1, z2, y0, y1, y2⟩ := V1a.facts; have F9 := set3 V1a.r (.int .i64 vf.code) (.bool vf.placed) (.int .i64 vf.pos)))
    refine gen_world (Q := fun W => bodyPost _ _ _ _ _ W) _ (fun W => W.heap[kp + 1]? = some (.cells #[.int .i64 vf.code, .bool vf.placed, .int .i64 vf.pos] 36 (0, 0)) ∧ Below w.heap.size w W) ⟨F9, below_set3 hb10 hkr⟩ ?_
    clear F9 hb10 z0 z1 z2 y0 y1 y2
    rintro W9 ⟨F, HB⟩
    have c0 : W9.cell? ⟨kp + 1, 0, none⟩ = some (.int .i64 vf.code) := (cell_blk F _).trans rfl
    have c1 : W9.cell? ⟨kp + 1, 1, none⟩ = some (.bool vf.placed) := (cell_blk F _).trans rfl
    have c2 : W9.cell? ⟨kp + 1, 2, none⟩ = some (.int .i64 vf.pos) := (cell_blk F _).trans rfl
    exact bodyPost_ret (v := .agg #[.int .i64 vf.code, .bool vf.placed, .int .i64 vf.pos]) (by simp [results, Tryz.results19, go_sem, c0, c1, c2]) rfl ⟨by rw [show R = _ from hRv], HB⟩
end Go.Proofs.YtkplfaionpplaaaGreatDoor
namespace Go.Proofs.YtkplfaionpplaaaGreatDoor
open Go.RowKit Go.Proofs.YtkplfaionpplaaaGreatDoorW.PrintWords
set_option maxRecDepth 100000 in
set_option maxHeartbeats 800000 in
theorem lower_tape (w : World) (q n : Int) (a : Option Addr) (nv cap : Nat) (A6 : Option Addr) (n6 c6 : Nat) (h : Al.ringOk q n = true) (hv : nv ≤ 12) : Calls Tryz.prog 26 #[.agg #[.int .i64 q, .int .i64 n, .slice a nv cap, .slice A6 n6 c6]] w fun e w' => e = .returned (.int .i64 (2 + n * nv)) ∧ Below w.heap.size w w' := by
  have hn : 0 ≤ n ∧ n ≤ 256 := by
    have h2 : Al.isSize n = true := by unfold Al.ringOk at h; simp at h; exact h.2
    have := Al.size_facts h2; omega
  obtain ⟨W, hW⟩ : ∃ W, W = w.alloc (.cells #[.int .i64 q, .int .i64 n, .slice a nv cap, .slice A6 n6 c6] 27) := ⟨_, rfl⟩
  have hb0 : Below w.heap.size w W := by rw [hW]; exact (Below.refl _ _).alloc (Nat.le_refl _) _
  obtain ⟨kp, hkp⟩ : ∃ kp, kp = w.heap.size := ⟨_, rfl⟩
  have P0 : W.heap[kp]? = some (.cells #[.int .i64 q, .int .i64 n, .slice a nv cap, .slice A6 n6 c6] 27 (0, 0)) := by rw [hW, hkp]; exact heap_alloc_new w _
  have HV := valid_yes W q n h
  go_enter Tryz.func26, Tryz.ntmps26
  go_wp2_with fail
  rw [← hW]
  simp only [← hkp]
  replace hkp := Lib.hid hkp
  clear hW
  go_wp2_with (first
    | (go_at_call 61; refine HV.mono ?_; rintro e w1 ⟨rfl, hb1⟩; have P1 := below_blk hb1 P0 (blk_lt P0); have hb2 := hb0.trans (lower_below hb1 hb0.size); have c0 : w1.cell? ⟨kp, 0, none⟩ = some (.int .i64 q) := (cell_blk P1 _).trans rfl; have c1 : w1.cell? ⟨kp, 1, none⟩ = some (.int .i64 n) := (cell_blk P1 _).trans rfl; have c2 : w1.cell? ⟨kp, 2, none⟩ = some (.slice a nv cap) := (cell_blk P1 _).trans rfl; have c3 : w1.cell? ⟨kp, 3, none⟩ = some (.slice A6 n6 c6) := (cell_blk P1 _).trans rfl)
    | (go_at_call 55; refine (end_any _ q n a nv cap _ hn hv).mono ?_; rintro e w3 ⟨rfl, hb3⟩))
  exact bodyPost_ret (v := .int .i64 (2 + n * nv)) (by simp [results, Tryz.results26, go_sem]) rfl ⟨rfl, hb2.trans (lower_below hb3 hb2.size)⟩
def prog0 : Al.Prog := ⟨17, 4, [⟨1, false⟩, ⟨2, false⟩, ⟨3, false⟩], []⟩
theorem prog0_fine : Al.Fine prog0 := Al.fine_of_check (by decide)
theorem prog0_lies {w : World} {k : Nat} (h : w.heap[k]? = some (.cells #[.int .i64 1, .bool false, .int .i64 2, .bool false, .int .i64 3, .bool false] 81 (0, 0))) : PLies w prog0 (some ⟨k, 0, none⟩) none 3 0 := by
  refine ⟨⟨rfl, by decide, fun _ => ⟨_, rfl, fun j p hj => ?_⟩⟩, Kd.C_nil _ _, by decide⟩
  have hc : ∀ i, w.cell? ⟨k, i, none⟩ = (#[Value.int .i64 1, .bool false, .int .i64 2, .bool false, .int .i64 3, .bool false] : Array Value)[i]? := fun i => cell_blk h i
  have ha : ∀ m, w.cell? ((⟨k, 0, none⟩ : Addr).add m) = (#[Value.int .i64 1, .bool false, .int .i64 2, .bool false, .int .i64 3, .bool false] : Array Value)[m]? := fun m => by
    have e : (⟨k, 0, none⟩ : Addr).add m = ⟨k, m, none⟩ := by simp [Addr.add]; try omega
    rw [e, hc]
  refine ⟨[.int .i64 p.kind, .bool p.secret], rfl, kVar_mk w p, fun i u hu => ?_⟩
  rw [ha]
  have hj3 : j < 3 := (List.getElem?_eq_some_iff.1 hj).1
  have hi2 : i < 2 := (List.getElem?_eq_some_iff.1 hu).1
  have hjj : j = 0 ∨ j = 1 ∨ j = 2 := by omega
  have hii : i = 0 ∨ i = 1 := by omega
  rcases hjj with rfl | rfl | rfl <;> rcases hii with rfl | rfl <;> (cases hj; cases hu; rfl)
set_option maxRecDepth 100000 in
set_option maxHeartbeats 3200000 in
theorem first_any (w : World) : Calls Tryz.prog 7 #[] w fun e w' => e = .returned (.bool true) ∧ Below w.heap.size w w' := by
  obtain ⟨W, hW⟩ : ∃ W, W = (w.alloc (.cells #[.int .i64 1, .bool false, .int .i64 2, .bool false, .int .i64 3, .bool false] 81)).alloc (.cells #[.int .i64 17, .int .i64 4, .slice (some ⟨w.heap.size, 0, none⟩) 3 3, .slice none 0 0] 27) := ⟨_, rfl⟩
  have hb0 : Below w.heap.size w W := by rw [hW]; exact alloc_two _ _ _
  obtain ⟨kv, hkv⟩ : ∃ kv, kv = w.heap.size := ⟨_, rfl⟩
  have V0 : W.heap[kv]? = some (.cells #[.int .i64 1, .bool false, .int .i64 2, .bool false, .int .i64 3, .bool false] 81 (0, 0)) := by rw [hW, hkv]; exact alloc_blk _ (heap_alloc_new w _)
  have P0 : W.heap[kv + 1]? = some (.cells #[.int .i64 17, .int .i64 4, .slice (some ⟨kv, 0, none⟩) 3 3, .slice none 0 0] 27 (0, 0)) := by rw [hW, hkv]; exact alloc_at _ _ _
  have HL0 := lower_fine prog0_fine (prog0_lies V0)
  have HL : Calls Tryz.prog 10 #[.agg #[.int .i64 17, .int .i64 4, .slice (some ⟨kv, 0, none⟩) 3 3, .slice none 0 0]] W fun e w' => ∃ a n c a2 n2 c2, e = .returned (.tuple #[.agg #[.slice a n c, .int .i64 24, .int .i64 4114], .slice a2 n2 c2, Value.nilIface]) ∧ Below W.heap.size W w' := by
    refine Calls.mono HL0 ?_
    rintro e w1 ⟨vi, vs, rfl, h1, h2, hb⟩
    obtain ⟨a, c, rfl⟩ := own_slice h1
    obtain ⟨a2, c2, rfl⟩ := own_slice h2
    exact ⟨a, _, c, a2, _, c2, rfl, hb⟩
  clear HL0
  have HT := fun w0 => lower_tape w0 17 4 (some ⟨kv, 0, none⟩) 3 3 none 0 0 (by decide) (by decide)
  have HP := fun w0 => place_yes w0 17 4 1 (some ⟨kv, 0, none⟩) 3 3 (.slice none 0 0) (by decide) (by decide) (by decide) (by decide)
  have e1 : (2 : Int) + 4 * ((3 : Nat) : Int) = 14 := by decide
  have e2 : (2 : Int) + 4 * 1 = 6 := by decide
  rw [e2] at HP
  simp only [e1] at HT
  clear e1 e2
  go_enter Tryz.func7, Tryz.ntmps7
  go_wp2_with fail
  rw [← hW]
  simp only [← hkv]
  replace hkv := Lib.hid hkv
  clear hW
  go_upto_region 3 with (go_at_call 10; refine HL.mono ?_; rintro e w1 ⟨a, n, c, a2, n2, c2, rfl, hb1⟩; have V1 := below_blk hb1 V0 (blk_lt V0); have P1 := below_blk hb1 P0 (blk_lt P0); have hb2 := hb0.trans (lower_below hb1 hb0.size); clear HL V0 P0)
  refine gen_world (Q := fun W => Code.wp _ _ _ _ W) _ (fun W => W.heap[kv + 1]? = some (.cells #[.int .i64 17, .int .i64 4, .slice (some ⟨kv, 0, none⟩) 3 3, .slice none 0 0] 27 (0, 0)) ∧ W.heap[w1.heap.size]? = some (.cells #[.slice a n c, .int .i64 24, .int .i64 4114] 41 (0, 0)) ∧ Below w.heap.size w W) ⟨alloc_blk _ P1, heap_alloc_new w1 _, hb2.alloc (Nat.le_trans hb0.size hb1.size) _⟩ ?_
  rintro W2 ⟨P2, C2, hb4⟩
  obtain ⟨kc, hkc⟩ : ∃ kc, kc = w1.heap.size := ⟨_, rfl⟩
  rw [← hkc] at C2
  simp only [← hkc]
  replace hkc := Lib.hid hkc
  clear V1 P1 hb1 hb2
  have c0 : W2.cell? ⟨kv + 1, 0, none⟩ = some (.int .i64 17) := (cell_blk P2 _).trans rfl
  have c1 : W2.cell? ⟨kv + 1, 1, none⟩ = some (.int .i64 4) := (cell_blk P2 _).trans rfl
  have c2 : W2.cell? ⟨kv + 1, 2, none⟩ = some (.slice (some ⟨kv, 0, none⟩) 3 3) := (cell_blk P2 _).trans rfl
  have c3 : W2.cell? ⟨kv + 1, 3, none⟩ = some (.slice none 0 0) := (cell_blk P2 _).trans rfl
  go_wp2_with (first
    | (go_at_call 26; refine (HT _).mono ?_; rintro e w3 ⟨rfl, hb5⟩; have P3 := below_blk hb5 P2 (blk_lt P2); have C3 := below_blk hb5 C2 (blk_lt C2); have hb6 := hb4.trans (lower_below hb5 hb4.size); have d0 : w3.cell? ⟨kv + 1, 0, none⟩ = some (.int .i64 17) := (cell_blk P3 _).trans rfl; have d1 : w3.cell? ⟨kv + 1, 1, none⟩ = some (.int .i64 4) := (cell_blk P3 _).trans rfl; have d2 : w3.cell? ⟨kv + 1, 2, none⟩ = some (.slice (some ⟨kv, 0, none⟩) 3 3) := (cell_blk P3 _).trans rfl; have d3 : w3.cell? ⟨kv + 1, 3, none⟩ = some (.slice none 0 0) := (cell_blk P3 _).trans rfl)
    | (go_at_call 28; refine (HP _).mono ?_; rintro e w4 ⟨rfl, hb7⟩; have C4 := below_blk hb7 C3 (blk_lt C3); have hb8 := hb6.trans (lower_below hb7 hb6.size); have e2 : w4.cell? ⟨kc, 2, none⟩ = some (.int .i64 4114) := (cell_blk C4 _).trans rfl))
  exact bodyPost_ret (v := .bool true) (by simp [results, Tryz.results7, go_sem]) rfl ⟨rfl, hb8⟩
end Go.Proofs.YtkplfaionpplaaaGreatDoor
namespace Go.Proofs
open Go.Shelf
def Tryz.lays264_ren : Go.Shelf.Ren := ⟨fun | 264 => 83 | n => n, fun | 53 => 56 | 46 => 144 | n => n, fun | n => n⟩
theorem Tryz.lays264 : Go.Proofs.Lays.n264 Tryz.prog Tryz.lays264_ren := {
  mixed := by kernel_rfl
  f264 := Tryz.func83.trans (congrArg some (by kernel_rfl))
  t46 := Tryz.underlying144
  a46 := Tryz.isAgg144
  z46 := Tryz.sizeOf144
  v46 := Tryz.zeroValue144
  t53 := Tryz.underlying56
  a53 := Tryz.isAgg56
  z53 := Tryz.sizeOf56
  v53 := Tryz.zeroValue56 }
open Go.RowKit Go.Lib in
theorem Tryz.bits_Mul64 (x y : Nat) (hx : x < 18446744073709551616) (hy : y < 18446744073709551616) (w : World) :
    Calls Tryz.prog 83 #[.int .u64 x, .int .u64 y] w fun e w' => e = .returned (.tuple #[.int .u64 ((x * y / 18446744073709551616 : Nat) : Int), .int .u64 ((x * y % 18446744073709551616 : Nat) : Int)]) ∧ w' = w := Any.bits_Mul64 Tryz.lays264 x y hx hy w
end Go.Proofs
namespace Go.Proofs.YtkplfaionpplaaaGreatDoor
open Go.RowKit
set_option maxRecDepth 100000 in
set_option maxHeartbeats 400000 in
theorem mach_one (w : World) (b : Bool) : Calls Tryz.prog 43 #[.bool b] w fun e w' => e = .returned (.int .i64 (if b then 1 else 0)) ∧ w' = w := by
  cases b
  all_goals
    go_enter Tryz.func43, Tryz.ntmps43
    go_wp2_with fail
  · exact bodyPost_ret (v := .int .i64 0) (by simp [results, Tryz.results43, go_sem]) rfl ⟨rfl, rfl⟩
  · exact bodyPost_ret (v := .int .i64 1) (by simp [results, Tryz.results43, go_sem]) rfl ⟨rfl, rfl⟩
theorem and63 : ∀ k : Nat, k < 64 → bits BinOp.and IntKind.i64 (k : Int) 63 = (k : Int) := by decide
theorem wrapU_is (n : Int) : IntKind.u64.wrap n = Al.wrapU n := by unfold Al.wrapU; rw [IntKind.wrap_u64]
set_option maxRecDepth 100000 in
set_option maxHeartbeats 800000 in
theorem value_1 (w : World) (d x y z k a b c : Int) (ha : 0 ≤ a ∧ a < 18446744073709551616) (hb : 0 ≤ b ∧ b < 18446744073709551616) (hk : 0 ≤ k ∧ k ≤ 63) :
    Calls Tryz.prog 45 #[.agg #[.int .i64 1, .int .i64 d, .int .i64 x, .int .i64 y, .int .i64 z, .int .i64 k], .int .u64 a, .int .u64 b, .int .u64 c] w fun e w' => e = .returned (.tuple #[.int .u64 (Al.wvalue ⟨1, d, x, y, z, k⟩ a b c), .bool true]) ∧ Below w.heap.size w w' := by
  have hb0 : Below w.heap.size w (w.alloc (.cells #[.int .i64 1, .int .i64 d, .int .i64 x, .int .i64 y, .int .i64 z, .int .i64 k] 97)) := (Below.refl _ _).alloc (Nat.le_refl _) _
  have hv : Al.wvalue ⟨1, d, x, y, z, k⟩ a b c = k := by unfold Al.wvalue; simp only [if_true]; unfold Al.wrapU; omega
  rw [hv]
  clear hv
  have t0 : decide (0 ≤ k) = true := decide_eq_true hk.1
  have t1 : decide (k ≤ 63) = true := decide_eq_true hk.2
  go_enter Tryz.func45, Tryz.ntmps45
  go_wp2_with fail
  exact bodyPost_ret (v := .tuple #[.int .u64 (k), .bool true]) (by simp [results, Tryz.results45, go_sem]) rfl ⟨rfl, hb0⟩
set_option maxRecDepth 100000 in
set_option maxHeartbeats 800000 in
theorem value_1n (w : World) (d x y z k a b c : Int) (ha : 0 ≤ a ∧ a < 18446744073709551616) (hb : 0 ≤ b ∧ b < 18446744073709551616) (hk : k < 0) :
    Calls Tryz.prog 45 #[.agg #[.int .i64 1, .int .i64 d, .int .i64 x, .int .i64 y, .int .i64 z, .int .i64 k], .int .u64 a, .int .u64 b, .int .u64 c] w fun e w' => e = .returned (.tuple #[.int .u64 (Al.wvalue ⟨1, d, x, y, z, k⟩ a b c), .bool true]) ∧ Below w.heap.size w w' := by
  have hb0 : Below w.heap.size w (w.alloc (.cells #[.int .i64 1, .int .i64 d, .int .i64 x, .int .i64 y, .int .i64 z, .int .i64 k] 97)) := (Below.refl _ _).alloc (Nat.le_refl _) _
  have hv : Al.wvalue ⟨1, d, x, y, z, k⟩ a b c = Al.wrapU k := rfl
  rw [hv]
  clear hv
  have t0 : decide (0 ≤ k) = false := decide_eq_false (by omega)
  go_enter Tryz.func45, Tryz.ntmps45
  go_wp2_with fail
  rw [wrapU_is]
  exact bodyPost_ret (v := .tuple #[.int .u64 (Al.wrapU k), .bool true]) (by simp [results, Tryz.results45, go_sem]) rfl ⟨rfl, hb0⟩
set_option maxRecDepth 100000 in
set_option maxHeartbeats 800000 in
theorem value_1g (w : World) (d x y z k a b c : Int) (ha : 0 ≤ a ∧ a < 18446744073709551616) (hb : 0 ≤ b ∧ b < 18446744073709551616) (hk : 63 < k) :
    Calls Tryz.prog 45 #[.agg #[.int .i64 1, .int .i64 d, .int .i64 x, .int .i64 y, .int .i64 z, .int .i64 k], .int .u64 a, .int .u64 b, .int .u64 c] w fun e w' => e = .returned (.tuple #[.int .u64 (Al.wvalue ⟨1, d, x, y, z, k⟩ a b c), .bool true]) ∧ Below w.heap.size w w' := by
  have hb0 : Below w.heap.size w (w.alloc (.cells #[.int .i64 1, .int .i64 d, .int .i64 x, .int .i64 y, .int .i64 z, .int .i64 k] 97)) := (Below.refl _ _).alloc (Nat.le_refl _) _
  have hv : Al.wvalue ⟨1, d, x, y, z, k⟩ a b c = Al.wrapU k := rfl
  rw [hv]
  clear hv
  have t0 : decide (0 ≤ k) = true := decide_eq_true (by omega)
  have t1 : decide (k ≤ 63) = false := decide_eq_false (by omega)
  go_enter Tryz.func45, Tryz.ntmps45
  go_wp2_with fail
  rw [wrapU_is]
  exact bodyPost_ret (v := .tuple #[.int .u64 (Al.wrapU k), .bool true]) (by simp [results, Tryz.results45, go_sem]) rfl ⟨rfl, hb0⟩
set_option maxRecDepth 100000 in
set_option maxHeartbeats 800000 in
theorem value_2 (w : World) (d x y z k a b c : Int) (ha : 0 ≤ a ∧ a < 18446744073709551616) (hb : 0 ≤ b ∧ b < 18446744073709551616) (hk : 0 ≤ k ∧ k ≤ 63) :
    Calls Tryz.prog 45 #[.agg #[.int .i64 2, .int .i64 d, .int .i64 x, .int .i64 y, .int .i64 z, .int .i64 k], .int .u64 a, .int .u64 b, .int .u64 c] w fun e w' => e = .returned (.tuple #[.int .u64 (Al.wvalue ⟨2, d, x, y, z, k⟩ a b c), .bool true]) ∧ Below w.heap.size w w' := by
  have hb0 : Below w.heap.size w (w.alloc (.cells #[.int .i64 2, .int .i64 d, .int .i64 x, .int .i64 y, .int .i64 z, .int .i64 k] 97)) := (Below.refl _ _).alloc (Nat.le_refl _) _
  have hv : Al.wvalue ⟨2, d, x, y, z, k⟩ a b c = a := rfl
  rw [hv]
  clear hv
  have t0 : decide (0 ≤ k) = true := decide_eq_true hk.1
  have t1 : decide (k ≤ 63) = true := decide_eq_true hk.2
  go_enter Tryz.func45, Tryz.ntmps45
  go_wp2_with fail
  exact bodyPost_ret (v := .tuple #[.int .u64 (a), .bool true]) (by simp [results, Tryz.results45, go_sem]) rfl ⟨rfl, hb0⟩
set_option maxRecDepth 100000 in
set_option maxHeartbeats 800000 in
theorem value_3 (w : World) (d x y z k a b c : Int) (ha : 0 ≤ a ∧ a < 18446744073709551616) (hb : 0 ≤ b ∧ b < 18446744073709551616) (hk : 0 ≤ k ∧ k ≤ 63) :
    Calls Tryz.prog 45 #[.agg #[.int .i64 3, .int .i64 d, .int .i64 x, .int .i64 y, .int .i64 z, .int .i64 k], .int .u64 a, .int .u64 b, .int .u64 c] w fun e w' => e = .returned (.tuple #[.int .u64 (Al.wvalue ⟨3, d, x, y, z, k⟩ a b c), .bool true]) ∧ Below w.heap.size w w' := by
  have hb0 : Below w.heap.size w (w.alloc (.cells #[.int .i64 3, .int .i64 d, .int .i64 x, .int .i64 y, .int .i64 z, .int .i64 k] 97)) := (Below.refl _ _).alloc (Nat.le_refl _) _
  have hv : Al.wvalue ⟨3, d, x, y, z, k⟩ a b c = Al.wrapU (a + b) := rfl
  rw [hv]
  clear hv
  have t0 : decide (0 ≤ k) = true := decide_eq_true hk.1
  have t1 : decide (k ≤ 63) = true := decide_eq_true hk.2
  go_enter Tryz.func45, Tryz.ntmps45
  go_wp2_with fail
  rw [wrapU_is]
  exact bodyPost_ret (v := .tuple #[.int .u64 (Al.wrapU (a + b)), .bool true]) (by simp [results, Tryz.results45, go_sem]) rfl ⟨rfl, hb0⟩
set_option maxRecDepth 100000 in
set_option maxHeartbeats 800000 in
theorem value_4 (w : World) (d x y z k a b c : Int) (ha : 0 ≤ a ∧ a < 18446744073709551616) (hb : 0 ≤ b ∧ b < 18446744073709551616) (hk : 0 ≤ k ∧ k ≤ 63) :
    Calls Tryz.prog 45 #[.agg #[.int .i64 4, .int .i64 d, .int .i64 x, .int .i64 y, .int .i64 z, .int .i64 k], .int .u64 a, .int .u64 b, .int .u64 c] w fun e w' => e = .returned (.tuple #[.int .u64 (Al.wvalue ⟨4, d, x, y, z, k⟩ a b c), .bool true]) ∧ Below w.heap.size w w' := by
  have hb0 : Below w.heap.size w (w.alloc (.cells #[.int .i64 4, .int .i64 d, .int .i64 x, .int .i64 y, .int .i64 z, .int .i64 k] 97)) := (Below.refl _ _).alloc (Nat.le_refl _) _
  have hv : Al.wvalue ⟨4, d, x, y, z, k⟩ a b c = Al.wrapU (a - b) := rfl
  rw [hv]
  clear hv
  have t0 : decide (0 ≤ k) = true := decide_eq_true hk.1
  have t1 : decide (k ≤ 63) = true := decide_eq_true hk.2
  go_enter Tryz.func45, Tryz.ntmps45
  go_wp2_with fail
  rw [wrapU_is]
  exact bodyPost_ret (v := .tuple #[.int .u64 (Al.wrapU (a - b)), .bool true]) (by simp [results, Tryz.results45, go_sem]) rfl ⟨rfl, hb0⟩
set_option maxRecDepth 100000 in
set_option maxHeartbeats 800000 in
theorem value_5 (w : World) (d x y z k a b c : Int) (ha : 0 ≤ a ∧ a < 18446744073709551616) (hb : 0 ≤ b ∧ b < 18446744073709551616) (hk : 0 ≤ k ∧ k ≤ 63) :
    Calls Tryz.prog 45 #[.agg #[.int .i64 5, .int .i64 d, .int .i64 x, .int .i64 y, .int .i64 z, .int .i64 k], .int .u64 a, .int .u64 b, .int .u64 c] w fun e w' => e = .returned (.tuple #[.int .u64 (Al.wvalue ⟨5, d, x, y, z, k⟩ a b c), .bool true]) ∧ Below w.heap.size w w' := by
  have hb0 : Below w.heap.size w (w.alloc (.cells #[.int .i64 5, .int .i64 d, .int .i64 x, .int .i64 y, .int .i64 z, .int .i64 k] 97)) := (Below.refl _ _).alloc (Nat.le_refl _) _
  have hv : Al.wvalue ⟨5, d, x, y, z, k⟩ a b c = Al.wrapU (a * b) := rfl
  rw [hv]
  clear hv
  have t0 : decide (0 ≤ k) = true := decide_eq_true hk.1
  have t1 : decide (k ≤ 63) = true := decide_eq_true hk.2
  go_enter Tryz.func45, Tryz.ntmps45
  go_wp2_with fail
  rw [wrapU_is]
  exact bodyPost_ret (v := .tuple #[.int .u64 (Al.wrapU (a * b)), .bool true]) (by simp [results, Tryz.results45, go_sem]) rfl ⟨rfl, hb0⟩
set_option maxRecDepth 100000 in
set_option maxHeartbeats 800000 in
theorem value_6 (w : World) (d x y z k a b c : Int) (ha : 0 ≤ a ∧ a < 18446744073709551616) (hb : 0 ≤ b ∧ b < 18446744073709551616) (hk : 0 ≤ k ∧ k ≤ 63) :
    Calls Tryz.prog 45 #[.agg #[.int .i64 6, .int .i64 d, .int .i64 x, .int .i64 y, .int .i64 z, .int .i64 k], .int .u64 a, .int .u64 b, .int .u64 c] w fun e w' => e = .returned (.tuple #[.int .u64 (Al.wvalue ⟨6, d, x, y, z, k⟩ a b c), .bool true]) ∧ Below w.heap.size w w' := by
  have hb0 : Below w.heap.size w (w.alloc (.cells #[.int .i64 6, .int .i64 d, .int .i64 x, .int .i64 y, .int .i64 z, .int .i64 k] 97)) := (Below.refl _ _).alloc (Nat.le_refl _) _
  have hv : Al.wvalue ⟨6, d, x, y, z, k⟩ a b c = a * b / 18446744073709551616 := rfl
  rw [hv]
  clear hv
  have t0 : decide (0 ≤ k) = true := decide_eq_true hk.1
  have t1 : decide (k ≤ 63) = true := decide_eq_true hk.2
  obtain ⟨a, rfl⟩ := Int.eq_ofNat_of_zero_le ha.1
  obtain ⟨b, rfl⟩ := Int.eq_ofNat_of_zero_le hb.1
  have HM := fun w0 => Tryz.bits_Mul64 a b (by omega) (by omega) w0
  go_enter Tryz.func45, Tryz.ntmps45
  go_wp2_with (first | (go_at_call 83; refine (HM _).mono ?_; rintro e w1 ⟨rfl, rfl⟩))
  exact bodyPost_ret (v := .tuple #[.int .u64 ((a : Int) * b / 18446744073709551616), .bool true]) (by simp [results, Tryz.results45, go_sem]) rfl ⟨rfl, hb0⟩
set_option maxRecDepth 100000 in
set_option maxHeartbeats 800000 in
theorem value_7 (w : World) (d x y z k a b c : Int) (ha : 0 ≤ a ∧ a < 18446744073709551616) (hb : 0 ≤ b ∧ b < 18446744073709551616) (hk : 0 ≤ k ∧ k ≤ 63) :
    Calls Tryz.prog 45 #[.agg #[.int .i64 7, .int .i64 d, .int .i64 x, .int .i64 y, .int .i64 z, .int .i64 k], .int .u64 a, .int .u64 b, .int .u64 c] w fun e w' => e = .returned (.tuple #[.int .u64 (Al.wvalue ⟨7, d, x, y, z, k⟩ a b c), .bool true]) ∧ Below w.heap.size w w' := by
  have hb0 : Below w.heap.size w (w.alloc (.cells #[.int .i64 7, .int .i64 d, .int .i64 x, .int .i64 y, .int .i64 z, .int .i64 k] 97)) := (Below.refl _ _).alloc (Nat.le_refl _) _
  have hv : Al.wvalue ⟨7, d, x, y, z, k⟩ a b c = Al.wand a b := rfl
  rw [hv]
  clear hv
  have t0 : decide (0 ≤ k) = true := decide_eq_true hk.1
  have t1 : decide (k ≤ 63) = true := decide_eq_true hk.2
  obtain ⟨a, rfl⟩ := Int.eq_ofNat_of_zero_le ha.1
  obtain ⟨b, rfl⟩ := Int.eq_ofNat_of_zero_le hb.1
  go_enter Tryz.func45, Tryz.ntmps45
  go_wp2_with fail
  have hx : bits BinOp.and IntKind.u64 (a : Int) (b : Int) = Al.wand a b := bits_and_u64_nat a b (by omega) (by omega)
  rw [hx]
  exact bodyPost_ret (v := .tuple #[.int .u64 (Al.wand a b), .bool true]) (by simp [results, Tryz.results45, go_sem]) rfl ⟨rfl, hb0⟩
set_option maxRecDepth 100000 in
set_option maxHeartbeats 800000 in
theorem value_8 (w : World) (d x y z k a b c : Int) (ha : 0 ≤ a ∧ a < 18446744073709551616) (hb : 0 ≤ b ∧ b < 18446744073709551616) (hk : 0 ≤ k ∧ k ≤ 63) :
    Calls Tryz.prog 45 #[.agg #[.int .i64 8, .int .i64 d, .int .i64 x, .int .i64 y, .int .i64 z, .int .i64 k], .int .u64 a, .int .u64 b, .int .u64 c] w fun e w' => e = .returned (.tuple #[.int .u64 (Al.wvalue ⟨8, d, x, y, z, k⟩ a b c), .bool true]) ∧ Below w.heap.size w w' := by
  have hb0 : Below w.heap.size w (w.alloc (.cells #[.int .i64 8, .int .i64 d, .int .i64 x, .int .i64 y, .int .i64 z, .int .i64 k] 97)) := (Below.refl _ _).alloc (Nat.le_refl _) _
  have hv : Al.wvalue ⟨8, d, x, y, z, k⟩ a b c = Al.wor a b := rfl
  rw [hv]
  clear hv
  have t0 : decide (0 ≤ k) = true := decide_eq_true hk.1
  have t1 : decide (k ≤ 63) = true := decide_eq_true hk.2
  obtain ⟨a, rfl⟩ := Int.eq_ofNat_of_zero_le ha.1
  obtain ⟨b, rfl⟩ := Int.eq_ofNat_of_zero_le hb.1
  go_enter Tryz.func45, Tryz.ntmps45
  go_wp2_with fail
  have hx : bits BinOp.or IntKind.u64 (a : Int) (b : Int) = Al.wor a b := bits_or_u64_nat a b (by omega) (by omega)
  rw [hx]
  exact bodyPost_ret (v := .tuple #[.int .u64 (Al.wor a b), .bool true]) (by simp [results, Tryz.results45, go_sem]) rfl ⟨rfl, hb0⟩
set_option maxRecDepth 100000 in
set_option maxHeartbeats 800000 in
theorem value_9 (w : World) (d x y z k a b c : Int) (ha : 0 ≤ a ∧ a < 18446744073709551616) (hb : 0 ≤ b ∧ b < 18446744073709551616) (hk : 0 ≤ k ∧ k ≤ 63) :
    Calls Tryz.prog 45 #[.agg #[.int .i64 9, .int .i64 d, .int .i64 x, .int .i64 y, .int .i64 z, .int .i64 k], .int .u64 a, .int .u64 b, .int .u64 c] w fun e w' => e = .returned (.tuple #[.int .u64 (Al.wvalue ⟨9, d, x, y, z, k⟩ a b c), .bool true]) ∧ Below w.heap.size w w' := by
  have hb0 : Below w.heap.size w (w.alloc (.cells #[.int .i64 9, .int .i64 d, .int .i64 x, .int .i64 y, .int .i64 z, .int .i64 k] 97)) := (Below.refl _ _).alloc (Nat.le_refl _) _
  have hv : Al.wvalue ⟨9, d, x, y, z, k⟩ a b c = Al.wxor a b := rfl
  rw [hv]
  clear hv
  have t0 : decide (0 ≤ k) = true := decide_eq_true hk.1
  have t1 : decide (k ≤ 63) = true := decide_eq_true hk.2
  obtain ⟨a, rfl⟩ := Int.eq_ofNat_of_zero_le ha.1
  obtain ⟨b, rfl⟩ := Int.eq_ofNat_of_zero_le hb.1
  go_enter Tryz.func45, Tryz.ntmps45
  go_wp2_with fail
  have hx : bits BinOp.xor IntKind.u64 (a : Int) (b : Int) = Al.wxor a b := bits_xor_u64_nat a b (by omega) (by omega)
  rw [hx]
  exact bodyPost_ret (v := .tuple #[.int .u64 (Al.wxor a b), .bool true]) (by simp [results, Tryz.results45, go_sem]) rfl ⟨rfl, hb0⟩
set_option maxRecDepth 100000 in
set_option maxHeartbeats 800000 in
theorem value_13 (w : World) (d x y z k a b c : Int) (ha : 0 ≤ a ∧ a < 18446744073709551616) (hb : 0 ≤ b ∧ b < 18446744073709551616) (hk : 0 ≤ k ∧ k ≤ 63) :
    Calls Tryz.prog 45 #[.agg #[.int .i64 13, .int .i64 d, .int .i64 x, .int .i64 y, .int .i64 z, .int .i64 k], .int .u64 a, .int .u64 b, .int .u64 c] w fun e w' => e = .returned (.tuple #[.int .u64 (Al.wvalue ⟨13, d, x, y, z, k⟩ a b c), .bool true]) ∧ Below w.heap.size w w' := by
  have hb0 : Below w.heap.size w (w.alloc (.cells #[.int .i64 13, .int .i64 d, .int .i64 x, .int .i64 y, .int .i64 z, .int .i64 k] 97)) := (Below.refl _ _).alloc (Nat.le_refl _) _
  have hv : Al.wvalue ⟨13, d, x, y, z, k⟩ a b c = (if a < b then 1 else 0) := rfl
  rw [hv]
  clear hv
  have t0 : decide (0 ≤ k) = true := decide_eq_true hk.1
  have t1 : decide (k ≤ 63) = true := decide_eq_true hk.2
  by_cases h : a < b
  · have t2 : decide (a < b) = true := decide_eq_true h
    rw [if_pos h]
    go_enter Tryz.func45, Tryz.ntmps45
    go_wp2_with fail
    exact bodyPost_ret (v := .tuple #[.int .u64 (1), .bool true]) (by simp [results, Tryz.results45, go_sem]) rfl ⟨rfl, hb0⟩
  · have t2 : decide (a < b) = false := decide_eq_false h
    rw [if_neg h]
    go_enter Tryz.func45, Tryz.ntmps45
    go_wp2_with fail
    exact bodyPost_ret (v := .tuple #[.int .u64 (0), .bool true]) (by simp [results, Tryz.results45, go_sem]) rfl ⟨rfl, hb0⟩
set_option maxRecDepth 100000 in
set_option maxHeartbeats 800000 in
theorem value_14 (w : World) (d x y z k a b c : Int) (ha : 0 ≤ a ∧ a < 18446744073709551616) (hb : 0 ≤ b ∧ b < 18446744073709551616) (hk : 0 ≤ k ∧ k ≤ 63) :
    Calls Tryz.prog 45 #[.agg #[.int .i64 14, .int .i64 d, .int .i64 x, .int .i64 y, .int .i64 z, .int .i64 k], .int .u64 a, .int .u64 b, .int .u64 c] w fun e w' => e = .returned (.tuple #[.int .u64 (Al.wvalue ⟨14, d, x, y, z, k⟩ a b c), .bool true]) ∧ Below w.heap.size w w' := by
  have hb0 : Below w.heap.size w (w.alloc (.cells #[.int .i64 14, .int .i64 d, .int .i64 x, .int .i64 y, .int .i64 z, .int .i64 k] 97)) := (Below.refl _ _).alloc (Nat.le_refl _) _
  have hv : Al.wvalue ⟨14, d, x, y, z, k⟩ a b c = (if a ≠ 0 then b else c) := rfl
  rw [hv]
  clear hv
  have t0 : decide (0 ≤ k) = true := decide_eq_true hk.1
  have t1 : decide (k ≤ 63) = true := decide_eq_true hk.2
  by_cases h : a = 0
  · have t2 : (a != 0) = false := by simp [h]
    have t3 : (a == 0) = true := by simp [h]
    rw [if_neg (by simpa using h)]
    go_enter Tryz.func45, Tryz.ntmps45
    go_wp2_with fail
    exact bodyPost_ret (v := .tuple #[.int .u64 (c), .bool true]) (by simp [results, Tryz.results45, go_sem]) rfl ⟨rfl, hb0⟩
  · have t2 : (a != 0) = true := by simp [h]
    have t3 : (a == 0) = false := by simp [h]
    rw [if_pos h]
    go_enter Tryz.func45, Tryz.ntmps45
    go_wp2_with fail
    exact bodyPost_ret (v := .tuple #[.int .u64 (b), .bool true]) (by simp [results, Tryz.results45, go_sem]) rfl ⟨rfl, hb0⟩
set_option maxRecDepth 100000 in
set_option maxHeartbeats 800000 in
theorem value_10 (w : World) (d x y z k a b c : Int) (ha : 0 ≤ a ∧ a < 18446744073709551616) (hb : 0 ≤ b ∧ b < 18446744073709551616) (hk : 0 ≤ k ∧ k ≤ 63) :
    Calls Tryz.prog 45 #[.agg #[.int .i64 10, .int .i64 d, .int .i64 x, .int .i64 y, .int .i64 z, .int .i64 k], .int .u64 a, .int .u64 b, .int .u64 c] w fun e w' => e = .returned (.tuple #[.int .u64 (Al.wvalue ⟨10, d, x, y, z, k⟩ a b c), .bool true]) ∧ Below w.heap.size w w' := by
  have hb0 : Below w.heap.size w (w.alloc (.cells #[.int .i64 10, .int .i64 d, .int .i64 x, .int .i64 y, .int .i64 z, .int .i64 k] 97)) := (Below.refl _ _).alloc (Nat.le_refl _) _
  have hv : Al.wvalue ⟨10, d, x, y, z, k⟩ a b c = Al.wrapU (a * 2 ^ k.toNat) := by unfold Al.wvalue; simp only; rw [if_neg (by decide), if_neg (by decide), if_neg (by decide), if_neg (by decide), if_neg (by decide), if_neg (by decide), if_neg (by decide), if_neg (by decide), if_neg (by decide), if_neg (by decide), if_neg (by decide), if_pos hk]; rfl
  rw [hv]
  clear hv
  have t0 : decide (0 ≤ k) = true := decide_eq_true hk.1
  have t1 : decide (k ≤ 63) = true := decide_eq_true hk.2
  obtain ⟨k, rfl⟩ := Int.eq_ofNat_of_zero_le hk.1
  have h6 : k < 64 := by omega
  have h7 : IntKind.u64.wrap (k : Int) = k := IntWalk.u64_in _ (by omega)
  go_enter Tryz.func45, Tryz.ntmps45
  go_wp2_with fail
  simp only [and63 k h6, h7, Int.toNat_natCast, Nat.min_eq_left (Nat.le_of_lt h6)]
  rw [wrapU_is]
  exact bodyPost_ret (v := .tuple #[.int .u64 (Al.wrapU (a * 2 ^ k)), .bool true]) (by simp [results, Tryz.results45, go_sem]) rfl ⟨rfl, hb0⟩
set_option maxRecDepth 100000 in
set_option maxHeartbeats 800000 in
theorem value_11 (w : World) (d x y z k a b c : Int) (ha : 0 ≤ a ∧ a < 18446744073709551616) (hb : 0 ≤ b ∧ b < 18446744073709551616) (hk : 0 ≤ k ∧ k ≤ 63) :
    Calls Tryz.prog 45 #[.agg #[.int .i64 11, .int .i64 d, .int .i64 x, .int .i64 y, .int .i64 z, .int .i64 k], .int .u64 a, .int .u64 b, .int .u64 c] w fun e w' => e = .returned (.tuple #[.int .u64 (Al.wvalue ⟨11, d, x, y, z, k⟩ a b c), .bool true]) ∧ Below w.heap.size w w' := by
  have hb0 : Below w.heap.size w (w.alloc (.cells #[.int .i64 11, .int .i64 d, .int .i64 x, .int .i64 y, .int .i64 z, .int .i64 k] 97)) := (Below.refl _ _).alloc (Nat.le_refl _) _
  have hv : Al.wvalue ⟨11, d, x, y, z, k⟩ a b c = a / 2 ^ k.toNat := by unfold Al.wvalue; simp only; rw [if_neg (by decide), if_neg (by decide), if_neg (by decide), if_neg (by decide), if_neg (by decide), if_neg (by decide), if_neg (by decide), if_neg (by decide), if_neg (by decide), if_neg (by decide), if_neg (by decide), if_pos hk]; rfl
  rw [hv]
  clear hv
  have t0 : decide (0 ≤ k) = true := decide_eq_true hk.1
  have t1 : decide (k ≤ 63) = true := decide_eq_true hk.2
  obtain ⟨k, rfl⟩ := Int.eq_ofNat_of_zero_le hk.1
  have h6 : k < 64 := by omega
  have h7 : IntKind.u64.wrap (k : Int) = k := IntWalk.u64_in _ (by omega)
  go_enter Tryz.func45, Tryz.ntmps45
  go_wp2_with fail
  simp only [and63 k h6, h7, Int.toNat_natCast, Nat.min_eq_left (Nat.le_of_lt h6)]
  exact bodyPost_ret (v := .tuple #[.int .u64 (a / 2 ^ k), .bool true]) (by simp [results, Tryz.results45, go_sem]) rfl ⟨rfl, hb0⟩
set_option maxRecDepth 100000 in
set_option maxHeartbeats 800000 in
theorem value_12 (w : World) (d x y z k a b c : Int) (ha : 0 ≤ a ∧ a < 18446744073709551616) (hb : 0 ≤ b ∧ b < 18446744073709551616) (hk : 0 ≤ k ∧ k ≤ 63) :
    Calls Tryz.prog 45 #[.agg #[.int .i64 12, .int .i64 d, .int .i64 x, .int .i64 y, .int .i64 z, .int .i64 k], .int .u64 a, .int .u64 b, .int .u64 c] w fun e w' => e = .returned (.tuple #[.int .u64 (Al.wvalue ⟨12, d, x, y, z, k⟩ a b c), .bool true]) ∧ Below w.heap.size w w' := by
  have hb0 : Below w.heap.size w (w.alloc (.cells #[.int .i64 12, .int .i64 d, .int .i64 x, .int .i64 y, .int .i64 z, .int .i64 k] 97)) := (Below.refl _ _).alloc (Nat.le_refl _) _
  have hv : Al.wvalue ⟨12, d, x, y, z, k⟩ a b c = Al.wrapU (Al.sgn a / 2 ^ k.toNat) := by unfold Al.wvalue; simp only; rw [if_neg (by decide), if_neg (by decide), if_neg (by decide), if_neg (by decide), if_neg (by decide), if_neg (by decide), if_neg (by decide), if_neg (by decide), if_neg (by decide), if_neg (by decide), if_neg (by decide), if_pos hk]; rfl
  rw [hv]
  clear hv
  have t0 : decide (0 ≤ k) = true := decide_eq_true hk.1
  have t1 : decide (k ≤ 63) = true := decide_eq_true hk.2
  obtain ⟨k, rfl⟩ := Int.eq_ofNat_of_zero_le hk.1
  have h6 : k < 64 := by omega
  have h7 : IntKind.u64.wrap (k : Int) = k := IntWalk.u64_in _ (by omega)
  go_enter Tryz.func45, Tryz.ntmps45
  go_wp2_with fail
  simp only [and63 k h6, h7, Int.toNat_natCast, Nat.min_eq_left (Nat.le_of_lt h6)]
  rw [wrapU_is, show wrap64 a = Al.sgn a by unfold wrap64 Al.sgn; split <;> omega]
  exact bodyPost_ret (v := .tuple #[.int .u64 (Al.wrapU (Al.sgn a / 2 ^ k)), .bool true]) (by simp [results, Tryz.results45, go_sem]) rfl ⟨rfl, hb0⟩
theorem mach_value (w : World) (i : Al.Inst) (a b c : Int) (ha : 0 ≤ a ∧ a < 18446744073709551616) (hb : 0 ≤ b ∧ b < 18446744073709551616) (hop : 1 ≤ i.op ∧ i.op ≤ 14) (hk : i.op ≠ 1 → 0 ≤ i.k ∧ i.k ≤ 63) :
    Calls Tryz.prog 45 #[.agg #[.int .i64 i.op, .int .i64 i.d, .int .i64 i.a, .int .i64 i.b, .int .i64 i.c, .int .i64 i.k], .int .u64 a, .int .u64 b, .int .u64 c] w fun e w' => e = .returned (.tuple #[.int .u64 (Al.wvalue i a b c), .bool true]) ∧ Below w.heap.size w w' := by
  obtain ⟨op, d, x, y, z, k⟩ := i
  simp only at hop hk ⊢
  have h : op = 1 ∨ op = 2 ∨ op = 3 ∨ op = 4 ∨ op = 5 ∨ op = 6 ∨ op = 7 ∨ op = 8 ∨ op = 9 ∨ op = 10 ∨ op = 11 ∨ op = 12 ∨ op = 13 ∨ op = 14 := by omega
  rcases h with rfl | rfl | rfl | rfl | rfl | rfl | rfl | rfl | rfl | rfl | rfl | rfl | rfl | rfl
  · by_cases h0 : k < 0
    · exact value_1n w d x y z k a b c ha hb h0
    · by_cases h1 : 63 < k
      · exact value_1g w d x y z k a b c ha hb h1
      · exact value_1 w d x y z k a b c ha hb (by omega)
  · exact value_2 w d x y z k a b c ha hb (hk (by decide))
  · exact value_3 w d x y z k a b c ha hb (hk (by decide))
  · exact value_4 w d x y z k a b c ha hb (hk (by decide))
  · exact value_5 w d x y z k a b c ha hb (hk (by decide))
  · exact value_6 w d x y z k a b c ha hb (hk (by decide))
  · exact value_7 w d x y z k a b c ha hb (hk (by decide))
  · exact value_8 w d x y z k a b c ha hb (hk (by decide))
  · exact value_9 w d x y z k a b c ha hb (hk (by decide))
  · exact value_10 w d x y z k a b c ha hb (hk (by decide))
  · exact value_11 w d x y z k a b c ha hb (hk (by decide))
  · exact value_12 w d x y z k a b c ha hb (hk (by decide))
  · exact value_13 w d x y z k a b c ha hb (hk (by decide))
  · exact value_14 w d x y z k a b c ha hb (hk (by decide))
end Go.Proofs.YtkplfaionpplaaaGreatDoor
