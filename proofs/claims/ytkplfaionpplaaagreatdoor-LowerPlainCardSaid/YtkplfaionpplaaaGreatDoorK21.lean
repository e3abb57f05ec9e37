/- Part 21: B52, P31, B53, B54. -/
import Derived.Test.YtkplfaionpplaaaGreatDoorK20
set_option linter.unusedVariables false
set_option linter.unusedSimpArgs false
namespace Go.Proofs.YtkplfaionpplaaaGreatDoor
open Go.RowKit
def leakCells (l : Al.Leak) : List Value := [.int .i64 l.kind, .int .i64 l.at_]
def leaksV (L : List Al.Leak) : List Value := L.flatMap leakCells
theorem leaksV_snoc (L : List Al.Leak) (l : Al.Leak) : leaksV (L ++ [l]) = leaksV L ++ leakCells l := by simp [leaksV]
theorem leaks_len (L : List Al.Leak) : (leaksV L).length = L.length * 2 := by
  induction L with
  | nil => rfl
  | cons s l ih => simp only [leaksV, List.flatMap_cons, List.length_append, List.length_cons] at ih ⊢; rw [ih]; simp [leakCells]; omega
theorem leaks_at (L : List Al.Leak) (k : Nat) (hk : k < L.length) : (leaksV L)[k * 2]? = some (.int .i64 (L[k]).kind) ∧ (leaksV L)[k * 2 + 1]? = some (.int .i64 (L[k]).at_) := by
  induction L generalizing k with
  | nil => simp at hk
  | cons s l ih =>
    cases k with
    | zero => simp [leaksV, leakCells]
    | succ k =>
      have e0 : (k + 1) * 2 = 2 + k * 2 := by omega
      have e : (k + 1) * 2 + 1 = 2 + (k * 2 + 1) := by omega
      simp only [leaksV, List.flatMap_cons] at ih ⊢
      rw [e, e0, List.getElem?_append_right (by simp [leakCells]), List.getElem?_append_right (by simp [leakCells])]
      have := ih k (by simpa using hk)
      simpa [leakCells] using this
theorem leaks_get {w : World} {base : Nat} {a : Option Addr} {cap : Nat} {L : List Al.Leak} (h : w.ownsRow base 103 2 (.slice a L.length cap) L.length (leaksV L)) {j : Nat} (hj : j < L.length) :
    ∃ g, a = some ⟨g, 0, none⟩ ∧ w.cell? ⟨g, j * 2, none⟩ = some (.int .i64 (L[j]).kind) ∧ w.cell? ⟨g, j * 2 + 1, none⟩ = some (.int .i64 (L[j]).at_) := by
  obtain ⟨g, c, hv, hgb, hgl⟩ := h.form (by omega)
  simp only [Value.slice.injEq] at hv
  have := leaks_len L
  have h2 := leaks_at L j hj
  obtain ⟨rfl, -, rfl⟩ := hv
  exact ⟨g, rfl, by rw [h.cellAt _ (by omega), h2.1], by rw [h.cellAt _ (by omega), h2.2]⟩
set_option maxRecDepth 100000 in
set_option maxHeartbeats 800000 in
theorem same_leak (w : World) (a b : Al.Leak) : Calls Tryz.prog 48 #[.agg #[.int .i64 a.kind, .int .i64 a.at_], .agg #[.int .i64 b.kind, .int .i64 b.at_]] w fun e w' => e = .returned (.bool (a.kind == b.kind && a.at_ == b.at_)) ∧ Below w.heap.size w w' := by
  have hb0 : Below w.heap.size w ((w.alloc (.cells #[.int .i64 a.kind, .int .i64 a.at_] 103)).alloc (.cells #[.int .i64 b.kind, .int .i64 b.at_] 103)) := alloc_two _ _ _
  cases z1 : (a.kind == b.kind)
  · go_enter Tryz.func48, Tryz.ntmps48
    go_wp2_with fail
    exact bodyPost_ret (v := .bool false) (by simp [results, Tryz.results48, go_sem]) rfl ⟨rfl, hb0⟩
  · cases z2 : (a.at_ == b.at_)
    · go_enter Tryz.func48, Tryz.ntmps48
      go_wp2_with fail
      exact bodyPost_ret (v := .bool false) (by simp [results, Tryz.results48, go_sem]) rfl ⟨rfl, hb0⟩
    · go_enter Tryz.func48, Tryz.ntmps48
      go_wp2_with fail
      exact bodyPost_ret (v := .bool true) (by simp [results, Tryz.results48, go_sem]) rfl ⟨rfl, hb0⟩
set_option maxRecDepth 100000 in
set_option maxHeartbeats 1600000 in
theorem same_leaks {w : World} {base base2 : Nat} {a a2 : Option Addr} {cap cap2 : Nat} {L : List Al.Leak} (h : w.ownsRow base 103 2 (.slice a L.length cap) L.length (leaksV L)) (h2 : w.ownsRow base2 103 2 (.slice a2 L.length cap2) L.length (leaksV L)) (hL : L.length < 1000000000000) :
    Calls Tryz.prog 18 #[.slice a L.length cap, .slice a2 L.length cap2] w fun e w' => e = .returned (.bool true) ∧ Below w.heap.size w w' := by
  have H := Lib.hid h
  have H2 := Lib.hid h2
  have hlt := h.lt
  have hlt2 := h2.lt
  clear h h2
  have z : ((L.length : Int) == (L.length : Int)) = true := beq_self_eq_true _
  go_enter Tryz.func18, Tryz.ntmps18
  go_wp2_with fail
  go_loopg [5] (L.length + 1) (fun gk v5 w' => ∃ j : Nat, v5 = .int .i64 j ∧ j + gk = L.length + 1 ∧ j ≤ L.length ∧ Hid (Below w.heap.size w w'))
  case atStart => exact ⟨0, rfl, by omega, by omega, Lib.hid (Below.refl _ _)⟩
  case round =>
    obtain ⟨j, rfl, hj, hj2, HB⟩ := hrel
    have hB := show Below w.heap.size w wr from HB
    by_cases hjl : j < L.length
    · obtain ⟨k1, rfl⟩ : ∃ k1, gk = k1 + 1 := ⟨gk - 1, by omega⟩
      obtain ⟨g, rfl, c0, c1⟩ := leaks_get (show w.ownsRow base 103 2 (.slice a L.length cap) L.length (leaksV L) from H) hjl
      obtain ⟨g2, rfl, d0, d1⟩ := leaks_get (show w.ownsRow base2 103 2 (.slice a2 L.length cap2) L.length (leaksV L) from H2) hjl
      replace c0 := cell_since hB c0
      replace c1 := cell_since hB c1
      replace d0 := cell_since hB d0
      replace d1 := cell_since hB d1
      obtain ⟨x, hx⟩ : ∃ x, x = L[j] := ⟨_, rfl⟩
      rw [← hx] at c0 c1 d0 d1
      replace hx := Lib.hid hx
      have t1 : decide ((j : Int) < (L.length : Int)) = true := by simp; omega
      have t2 : (0 : Int) ≤ (j : Int) := by omega
      have t3 : (j : Int) < (L.length : Int) := by omega
      have HS := same_leak wr x x
      have HSd := same_leak wr.drew x x
      simp only [beq_self_eq_true, Bool.and_self] at HS HSd
      go_wp2_with fail
      go_still_tail 8, (by kernel_rfl)
      go_wp2_with (first | (go_at_call 48; refine HSd.mono ?_; rintro e w2 ⟨rfl, hb2'⟩; have hb2 := undrew hb2'))
      go_roundg k1
      case measure => omega
      case rel => exact ⟨j + 1, by simp, by omega, by omega, Lib.hid (hB.trans (lower_below hb2 hB.size))⟩
    · have hje : j = L.length := by omega
      have t1 : decide ((j : Int) < (L.length : Int)) = false := by simp; omega
      go_wp2_with fail
      exact bodyPost_ret (v := .bool true) (by simp [results, Tryz.results18, go_sem]) rfl ⟨rfl, hB⟩
end Go.Proofs.YtkplfaionpplaaaGreatDoor
namespace Go.Proofs.YtkplfaionpplaaaGreatDoor.Al
def wS (f : List Stmt → Int) (s : Stmt) : Int :=
  (if s.op = 7 then 8 else 1) + min (f s.body + f s.els) 1000 * (if s.op = 15 ∨ s.op = 16 then max (min s.k 1000) 1 else 1)
def goW (f : List Stmt → Int) : List Stmt → Int → Int
  | [], n => n
  | s :: l, n => if n < 1000 then goW f l (n + wS f s) else n
/-- how many statements are done at most, up to 1000, so deep -/
def workF : Nat → List Stmt → Int
  | 0, _ => 1000
  | d + 1, l => min (goW (workF d) l 0) 1000
theorem wS_pos {f : List Stmt → Int} (hf : ∀ l, 0 ≤ f l) (s : Stmt) : 1 ≤ wS f s := by
  unfold wS
  have h1 := hf s.body
  have h2 := hf s.els
  have : 0 ≤ min (f s.body + f s.els) 1000 * (if s.op = 15 ∨ s.op = 16 then max (min s.k 1000) 1 else 1) := Int.mul_nonneg (by omega) (by split <;> omega)
  split <;> omega
theorem goW_ge {f : List Stmt → Int} (hf : ∀ l, 0 ≤ f l) : ∀ (l : List Stmt) (n : Int), n ≤ goW f l n
  | [], n => Int.le_refl _
  | s :: l, n => by
    unfold goW
    split
    · have := goW_ge hf l (n + wS f s)
      have := wS_pos hf s
      omega
    · exact Int.le_refl _
theorem workF_nonneg : ∀ (d : Nat) (l : List Stmt), 0 ≤ workF d l
  | 0, _ => by unfold workF; decide
  | d + 1, l => by
    unfold workF
    have := goW_ge (workF_nonneg d) l 0
    omega
theorem workF_le (d : Nat) (l : List Stmt) : workF d l ≤ 1000 := by cases d <;> unfold workF <;> omega
/-- it draws nothing, shows nothing, does not branch -/
def plainOp (s : Stmt) : Prop := 1 ≤ s.op ∧ s.op < 12 ∨ s.op = 15 ∧ 1 ≤ s.k ∧ s.k ≤ 50
/-- how a plain run goes -/
def PlainGo (x y : RS) (n : Int) : Prop := y.over = false ∧ y.code = 0 ∧ (y.steps : Int) ≤ x.steps + n ∧ y.evs = x.evs ∧ y.used = x.used
theorem times_plain {f : RS → RS} {m : Int} {fuel : Nat} (hm : 0 ≤ m) (hf : ∀ x : RS, x.over = false → x.code = 0 → x.steps + m ≤ fuel → PlainGo x (f x) m) : ∀ (k : Nat) (x : RS), x.over = false → x.code = 0 → x.steps + k * m ≤ fuel → PlainGo x (timesN f k x) (k * m)
  | 0, x, ho, hc, _ => ⟨ho, hc, by simp [timesN], rfl, rfl⟩
  | k + 1, x, ho, hc, h => by
    have e : ((k + 1 : Nat) : Int) * m = m + k * m := by rw [Int.natCast_add, Int.add_mul]; simp; omega
    rw [e] at h ⊢
    have h0 : 0 ≤ (k : Int) * m := Int.mul_nonneg (by omega) hm
    unfold timesN
    rw [if_neg (by simp [ho])]
    obtain ⟨a1, a2, a3, a4, a5⟩ := hf x ho hc (by omega)
    obtain ⟨b1, b2, b3, b4, b5⟩ := times_plain hm hf k (f x) a1 a2 (by omega)
    exact ⟨b1, b2, by omega, b4.trans a4, b5.trans a5⟩
theorem flat_self (s : Stmt) : s ∈ flatS s := by cases s; simp [flatS]
theorem flat_bodyS {s t : Stmt} (h : t ∈ flatL s.body) : t ∈ flatS s := by cases s; simp only [flatS]; exact List.mem_cons_of_mem _ (List.mem_append_left _ h)
theorem plain_stmt {E : Env} {fuel d : Nat} (ih : ∀ (l : List Stmt), (∀ s ∈ flatL l, plainOp s) → workF d l < 1000 → ∀ x : RS, x.over = false → x.code = 0 → x.steps + workF d l ≤ fuel → PlainGo x (exL E fuel l x) (workF d l))
    (s : Stmt) (hp : ∀ t ∈ flatS s, plainOp t) (hw : wS (workF d) s < 1000) (x : RS) (ho : x.over = false) (hc : x.code = 0) (hx : x.steps + wS (workF d) s ≤ fuel) : PlainGo x (exS E fuel s x) (wS (workF d) s) := by
  have h1 := workF_nonneg d s.body
  have h2 := workF_nonneg d s.els
  have hs := hp s (flat_self s)
  have hpos := wS_pos (workF_nonneg d) s
  have hb : ∀ t ∈ flatL s.body, plainOp t := fun t ht => hp t (flat_bodyS ht)
  obtain ⟨op, dd, a, b, c, k, body, els⟩ := s
  simp only at h1 h2 hb
  unfold plainOp at hs
  simp only at hs
  unfold exS
  rw [if_neg (by omega)]
  unfold RS.stepThen
  rw [if_neg (by omega)]
  dsimp only
  rw [if_neg (by omega), if_neg (by omega)]
  by_cases h15 : op = 15
  · rw [if_pos h15]
    have hk : (k.toNat : Int) = k := by omega
    have hwe : wS (workF d) ⟨op, dd, a, b, c, k, body, els⟩ = 1 + min (workF d body + workF d els) 1000 * k := by
      unfold wS; simp only; rw [if_neg (by omega), if_pos (by omega), show max (min k 1000) 1 = k by omega]
    rw [hwe] at hw hx ⊢
    have hle : 1 * min (workF d body + workF d els) 1000 ≤ k * min (workF d body + workF d els) 1000 := Int.mul_le_mul_of_nonneg_right (by omega) (by omega)
    rw [Int.mul_comm] at hw hx ⊢
    have hmin : min (workF d body + workF d els) 1000 = workF d body + workF d els := by omega
    rw [hmin] at hw hx hle ⊢
    have hle2 : k * workF d body ≤ k * (workF d body + workF d els) := Int.mul_le_mul_of_nonneg_left (by omega) (by omega)
    have := times_plain (f := exL E fuel body) (m := workF d body) (fuel := fuel) h1 (fun y hy hyc hys => ih body hb (by omega) y hy hyc hys) k.toNat { x with steps := x.steps + 1 } ho hc (by rw [hk]; simp only [Int.natCast_add]; omega)
    rw [hk] at this
    obtain ⟨b1, b2, b3, b4, b5⟩ := this
    simp only [Int.natCast_add] at b3
    exact ⟨b1, b2, by omega, b4, b5⟩
  · rw [if_neg h15, if_neg (by omega)]
    refine ⟨ho, hc, ?_, rfl, rfl⟩
    simp only [Int.natCast_add]; omega
theorem plain_list {E : Env} {fuel : Nat} : ∀ (d : Nat) (l : List Stmt), (∀ s ∈ flatL l, plainOp s) → workF d l < 1000 → ∀ x : RS, x.over = false → x.code = 0 → x.steps + workF d l ≤ fuel → PlainGo x (exL E fuel l x) (workF d l)
  | 0, l, _, h, _, _, _, _ => by unfold workF at h; omega
  | d + 1, l, hp, hw, x, ho, hc, hx => by
    have ih := plain_list (E := E) (fuel := fuel) d
    unfold workF at hw hx ⊢
    rw [show min (goW (workF d) l 0) 1000 = goW (workF d) l 0 by omega] at hw hx ⊢
    have go : ∀ (l : List Stmt) (n : Int), 0 ≤ n → (∀ s ∈ flatL l, plainOp s) → goW (workF d) l n < 1000 → ∀ x : RS, x.over = false → x.code = 0 → x.steps + (goW (workF d) l n - n) ≤ fuel → PlainGo x (exL E fuel l x) (goW (workF d) l n - n) := by
      intro l
      induction l with
      | nil => intro n _ _ _ x ho hc hx; unfold goW; exact ⟨ho, hc, by simp [exL], rfl, rfl⟩
      | cons s l ihl =>
        intro n h0 hp hw x ho hc hx
        have hn : n < 1000 := by
          by_cases hn : n < 1000
          · exact hn
          · unfold goW at hw; rw [if_neg hn] at hw; exact absurd hw hn
        unfold goW at hw hx ⊢
        rw [if_pos hn] at hw hx ⊢
        have hge := goW_ge (workF_nonneg d) l (n + wS (workF d) s)
        have hpos := wS_pos (workF_nonneg d) s
        unfold exL
        rw [if_neg (by simp [ho])]
        have hfl : ∀ t ∈ flatS s, plainOp t := fun t ht => hp t (by simp only [flatL]; exact List.mem_append_left _ ht)
        have hfl2 : ∀ t ∈ flatL l, plainOp t := fun t ht => hp t (by simp only [flatL]; exact List.mem_append_right _ ht)
        obtain ⟨a1, a2, a3, a4, a5⟩ := plain_stmt ih s hfl (by omega) x ho hc (by omega)
        obtain ⟨b1, b2, b3, b4, b5⟩ := ihl (n + wS (workF d) s) (by omega) hfl2 hw (exS E fuel s x) a1 a2 (by omega)
        exact ⟨b1, b2, by omega, b4.trans a4, b5.trans a5⟩
    have := go l 0 (Int.le_refl _) hp hw x ho hc (by omega)
    rwa [Int.sub_zero] at this
/-- LowerPlain's law: the words of such a program end as done, and what leaks of them does not hang on what is handed in. -/
theorem plain_law {p : Prog} (hF : Fine p) (hp : ∀ s ∈ flatL p.body, plainOp s) (hw : workF 13 p.body ≤ 400) {c : List CI} {len : Nat} (hlen : len = bodyP p.body + (genL (envOf p (bitsOf p.q)) 0 0 0 (bodyP p.body) p.body).length)
    (hc : c = progC (envOf p (bitsOf p.q)) p.body (outT len) (outG len p.body)) {fuel : Nat} (hfuel : 1001 * Wd (envOf p (bitsOf p.q)) ≤ fuel) :
    ∃ L : List Leak, ∀ ins, InOk p ins [] → ∃ mem' t, rrun (insts c) [] (envOf p (bitsOf p.q)).mem fuel 0 (List.replicate 25 0) (memF p (envOf p (bitsOf p.q)).mem ins []) [] 0 = ⟨0, mem', L, t, -1⟩ := by
  have hE := env_ok hF
  have hg := good_prog hF (bitsOf p.q)
  have hmem := endF_eq (bits := bitsOf p.q) hF
  generalize hEE : envOf p (bitsOf p.q) = E at *
  have hlen2 : len = bodyP p.body + (genL E (outT len) (outG len p.body) 0 (bodyP p.body) p.body).length := by rw [hlen]; congr 1; exact len_list E _ _ _ _ _ _ _
  obtain ⟨C, hC⟩ := prog_ok (fuel := 1000) hE hg hc hlen2 rfl rfl
  have hcl : c.length = (progC E p.body (outT len) (outG len p.body)).length := by rw [hc]
  have hln0 : ∀ T G, (progC E p.body T G).length = (bodyP p.body + (genL E T G 0 (bodyP p.body) p.body).length) + 1 + (if drawsL p.body then 1 else 0) + (if untilsL p.body then 1 else 0) := by
    intro T G
    unfold progC endC
    rw [List.length_append, List.length_append]
    have e1 : (if p.body.isEmpty = true then [] else beginC E).length = bodyP p.body := by unfold bodyP; split <;> simp [beginC]
    rw [e1]
    cases drawsL p.body <;> cases untilsL p.body <;> simp <;> omega
  have hln := hln0 (outT len) (outG len p.body)
  rw [← hlen2] at hln
  have hok : okC c.length c := by
    rw [hc]
    refine ok_prog hE hg ?_ ?_
    · rw [hln]; unfold outT; omega
    · rw [hln]; unfold outG; omega
  have hM : E.mem ≤ 65536 := hE.mem_le
  have hme : endF p + 4096 ≤ (E.mem : Int) := by rw [hmem]; unfold Env.mem Env.scratch; omega
  refine ⟨C [] ++ [⟨1, (haltAt len p.body 0 : Nat)⟩], fun ins hi => ?_⟩
  obtain ⟨m1, m2, m3⟩ := mem_ok hF hi (by simp) (bitsOf p.q) hme
  rw [hEE] at m2
  have h0 := workF_nonneg 13 p.body
  obtain ⟨a1, a2, a3, a4, a5⟩ := plain_list (E := E) (fuel := 1000) 13 p.body hp (by omega) ⟨[], Vof (V0 p ins), 0, 0, [], false, 0⟩ rfl rfl (by show ((0 : Nat) : Int) + workF 13 p.body ≤ ((1000 : Nat) : Int); omega)
  simp only at a3 a4 a5
  obtain ⟨ev, hgo, hrun⟩ := hC ⟨[], Vof (V0 p ins), 0, 0, [], false, 0⟩ rfl rfl rfl (by rw [a2]; decide)
  have hev : ev = [] := by have := hgo.evs; rw [a4] at this; simpa using this.symm
  subst hev
  obtain ⟨n, s, hs, hn, hpc, ⟨x, hh⟩, _⟩ := hrun (fun _ => 0) (fun j => (memF p E.mem ins []).getD j 0) (fun _ => rfl) m2
  rw [a2] at hh hpc
  have hmul : ((exL E 1000 p.body ⟨[], Vof (V0 p ins), 0, 0, [], false, 0⟩).steps - 0 + 1) * Wd E ≤ 1001 * Wd E := Nat.mul_le_mul_right _ (by omega)
  simp only at hn
  obtain ⟨mem', _, hr⟩ := run_halts hs hM (n := 25) (fun p i x h => (hok (i, x) (List.mem_of_getElem? h)).regs) (sp := []) (.inl rfl) (regs := List.replicate 25 0) (mem := memF p E.mem ins []) ⟨by simp, fun j hj => by rw [List.getD_eq_getElem?_getD, List.getElem?_replicate, if_pos hj]; rfl⟩ ⟨by rw [m1]; simp, fun _ _ => rfl⟩ hh (fuel := fuel) (by omega)
  refine ⟨mem', n + 1, ?_⟩
  rw [← hpc]
  exact hr
end Go.Proofs.YtkplfaionpplaaaGreatDoor.Al
namespace Go.Proofs.YtkplfaionpplaaaGreatDoor
open Go.RowKit Go.Proofs.YtkplfaionpplaaaGreatDoorW.PrintWords
/-- two rows that were made apart -/
theorem own_apart {w : World} {b1 : Nat} {e t : TypeId} {z1 z2 : Nat} {v u : Value} {n m : Nat} {xs ys : List Value} {w2 : World} {B : Nat} (h1 : w.ownsRow b1 e z1 v n xs) (hB : B = w.heap.size) (h2 : w2.ownsRow B t z2 u m ys) : ∀ k, u.ownBlock = some k → v.ownBlock ≠ some k :=
  fun k hk hv => by have := (h1.lt k hv).2; have := (h2.lt k hk).1; omega
theorem own_ne_keep {w w' : World} {b2 : Nat} {t : TypeId} {z2 : Nat} {v u : Value} {m : Nat} {ys : List Value} (h2 : w.ownsRow b2 t z2 u m ys) {b1 : Nat} {e : TypeId} {z1 n : Nat} {xs : List Value} (h1 : w.ownsRow b1 e z1 v n xs) (hg : w' = w ∨ w.grownBy w' v.ownBlock) (hs : ∀ k, u.ownBlock = some k → v.ownBlock ≠ some k) : w'.ownsRow b2 t z2 u m ys := by
  rcases hg with rfl | hg
  · exact h2
  · exact own_of h2 fun k hk => hg.block k (h2.lt k hk).2 (Ne.symm (hs k hk))
def flatOk : Nat → List Al.Stmt → Bool
  | 0, _ => false
  | d + 1, l => decide (l.length ≤ 30) && (l.all (fun s => flatOk d s.body && flatOk d s.els) && decide ((Al.flatL l).length ≤ 30))
theorem flatOk_len {d : Nat} {l : List Al.Stmt} (h : flatOk d l = true) : (Al.flatL l).length ≤ 30 := by
  cases d with
  | zero => cases h
  | succ d => unfold flatOk at h; simp at h; exact h.2.2
def FlatMC (W0 : World) (d : Nat) : Prop := ∀ (l : List Al.Stmt) (A : Option Addr) (cap : Nat) (dd : Int), dd = (d : Int) - 1 → kStmt.C W0 A l.length l → ∀ w, Below W0.heap.size W0 w →
  Calls Tryz.prog 63 #[.slice A l.length cap, .int .i64 30, .int .i64 dd] w fun e w' => ∃ v, e = .returned (.tuple #[v, .bool (flatOk d l)]) ∧ (flatOk d l = true → RowS W0 w' w.heap.size v (Al.flatL l)) ∧ Below w.heap.size w w'
set_option maxRecDepth 100000 in
set_option maxHeartbeats 1600000 in
theorem flatm_neg {W0 : World} : FlatMC W0 0 := by
  intro l A cap dd hdd hl w hB
  obtain ⟨R, hR0⟩ : ∃ R, R = flatOk 0 l := ⟨_, rfl⟩
  rw [← hR0]
  have hRv := Lib.hid (hR0.trans (show flatOk 0 l = false from rfl))
  clear hR0
  have t0 : decide (dd < 0) = true := decide_eq_true (by omega)
  clear hdd
  by_cases c : (30 : Int) < l.length
  · have t1 : decide ((30 : Int) < (l.length : Int)) = true := decide_eq_true c
    go_enter Tryz.func63, Tryz.ntmps63
    go_wp2_with fail
    exact bodyPost_ret (v := .tuple #[.slice none 0 0, .bool false]) (by simp [results, Tryz.results63, go_sem]) rfl ⟨_, by rw [show R = false from hRv], (fun h => by rw [show R = false from hRv] at h; cases h), Below.refl _ _⟩
  · have t1 : decide ((30 : Int) < (l.length : Int)) = false := decide_eq_false c
    go_enter Tryz.func63, Tryz.ntmps63
    go_wp2_with fail
    exact bodyPost_ret (v := .tuple #[.slice none 0 0, .bool false]) (by simp [results, Tryz.results63, go_sem]) rfl ⟨_, by rw [show R = false from hRv], (fun h => by rw [show R = false from hRv] at h; cases h), Below.refl _ _⟩
set_option maxRecDepth 100000 in
set_option maxHeartbeats 6400000 in
theorem flatm_step {W0 : World} {d : Nat} (hd13 : d ≤ 1000) (hm : FlatMC W0 d) : FlatMC W0 (d + 1) := by
  intro l A cap dd hdd hl w hB
  obtain rfl : dd = (d : Int) := by omega
  clear hdd
  obtain ⟨R, hR0⟩ : ∃ R, R = flatOk (d + 1) l := ⟨_, rfl⟩
  rw [← hR0]
  obtain ⟨i0, hi0, iz0, iz1, iz2⟩ := info_parts Tryz.infoStmt
  have td : decide ((d : Int) < 0) = false := decide_eq_false (by omega)
  by_cases c : (30 : Int) < l.length
  · have t1 : decide ((30 : Int) < (l.length : Int)) = true := decide_eq_true c
    have hRv : R = false := by rw [hR0]; unfold flatOk; rw [decide_eq_false (by omega)]; rfl
    replace hRv := Lib.hid hRv
    clear hR0
    go_enter Tryz.func63, Tryz.ntmps63
    go_wp2_with fail
    exact bodyPost_ret (v := .tuple #[.slice none 0 0, .bool false]) (by simp [results, Tryz.results63, go_sem]) rfl ⟨_, by rw [show R = false from hRv], (fun h => by rw [show R = false from hRv] at h; cases h), Below.refl _ _⟩
  have t1 : decide ((30 : Int) < (l.length : Int)) = false := decide_eq_false c
  have hl30 : l.length ≤ 30 := by omega
  unfold flatOk at hR0
  rw [decide_eq_true hl30, Bool.true_and] at hR0
  have HL := Lib.hid hl
  have HB := Lib.hid hB
  have HR0 := Lib.hid hR0
  clear hl hB hR0
  go_enter Tryz.func63, Tryz.ntmps63
  go_wp2_with fail
  go_loopg [8, 9, 10, 11, 12, 13] (l.length + 1) (fun gk v8 v9 v10 v11 v12 v13 w' => ∃ i : Nat, v9 = .int .i64 i ∧ i + gk = l.length + 1 ∧ i ≤ l.length ∧ Hid ((l.take i).all (fun s => flatOk d s.body && flatOk d s.els) = true ∧ (Al.flatL (l.take i)).length ≤ 30 ∧ RowS W0 w' w.heap.size v8 (Al.flatL (l.take i)) ∧ Below w.heap.size w w'))
  case atStart => exact ⟨0, rfl, by omega, by omega, show _ ∧ _ from ⟨by simp, by simp [Al.flatL], ⟨[], by simpa [Al.flatL] using World.ownsRow_nil _ _ _ _, by simp [Al.flatL, CellsS]⟩, Below.refl _ _⟩⟩
  case round =>
    obtain ⟨i, rfl, hg, hi2, HR⟩ := hrel
    obtain ⟨hall, hle, hrow, hR⟩ := show (l.take i).all (fun s => flatOk d s.body && flatOk d s.els) = true ∧ (Al.flatL (l.take i)).length ≤ 30 ∧ RowS W0 wr w.heap.size u8 (Al.flatL (l.take i)) ∧ Below w.heap.size w wr from HR
    have hB := show Below W0.heap.size W0 w from HB
    have hB1 : Below W0.heap.size W0 wr := hB.trans (lower_below hR hB.size)
    by_cases hil : i < l.length
    · obtain ⟨k1, rfl⟩ : ∃ k1, gk = k1 + 1 := ⟨gk - 1, by omega⟩
      obtain ⟨ad, A6, c6, A7, c7, rfl, d0, d1, d2, d3, d4, d5, d6, d7, l6, g6, l7, g7⟩ := at_T902 (show kStmt.C W0 A l.length l from HL) (i : Int) (by omega) (by omega)
      have D6 := fun w' (hb : Below W0.heap.size W0 w') => cell_since hb d6
      have D7 := fun w' (hb : Below W0.heap.size W0 w') => cell_since hb d7
      replace d0 := cell_since hB1 d0
      replace d1 := cell_since hB1 d1
      replace d2 := cell_since hB1 d2
      replace d3 := cell_since hB1 d3
      replace d4 := cell_since hB1 d4
      replace d5 := cell_since hB1 d5
      replace d6 := cell_since hB1 d6
      replace d7 := cell_since hB1 d7
      simp only [Int.toNat_natCast] at d0 d1 d2 d3 d4 d5 d6 d7 D6 D7
      obtain ⟨s, hs⟩ : ∃ s, s = rd_T902 l (i : Int) := ⟨_, rfl⟩
      simp only [← hs] at d0 d1 d2 d3 d4 d5 d6 d7 l6 g6 l7 g7 D6 D7
      rw [rd_get l i hil] at hs
      have hnx : Al.flatL (l.take (i + 1)) = Al.flatL (l.take i) ++ [s] ++ Al.flatL s.body ++ Al.flatL s.els := by
        rw [take_succ l i hil, flatL_append, flatL_one, ← hs, flatS_eq]; simp
      have hall2 : (l.take (i + 1)).all (fun s => flatOk d s.body && flatOk d s.els) = (flatOk d s.body && flatOk d s.els) := by
        rw [take_succ l i hil, List.all_append, hall, ← hs]; simp
      have hmem : s ∈ l := by rw [hs]; exact List.getElem_mem _
      have hallF : (flatOk d s.body && flatOk d s.els) = false → R = false := fun h => by
        rw [show R = _ from HR0]
        have : l.all (fun s => flatOk d s.body && flatOk d s.els) = false := List.all_eq_false.2 ⟨s, hmem, by rw [h]; decide⟩
        rw [this]; rfl
      have hlenF : 30 < (Al.flatL (l.take (i + 1))).length → R = false := fun h => by
        rw [show R = _ from HR0]
        have e : Al.flatL l = Al.flatL (l.take (i + 1)) ++ Al.flatL (l.drop (i + 1)) := by rw [← flatL_append, List.take_append_drop]
        have e2 := congrArg List.length e
        rw [List.length_append] at e2
        rw [decide_eq_false (show ¬ (Al.flatL l).length ≤ 30 by omega), Bool.and_false]
      replace hs := Lib.hid hs
      clear hmem hall
      have HD1 := fun w1 => hm s.body A6 c6 ((d : Int) - 1) rfl g6 w1
      have HD2 := fun w1 => hm s.els A7 c7 ((d : Int) - 1) rfl g7 w1
      obtain ⟨F0, hF0⟩ : ∃ F0, F0 = Al.flatL (l.take i) := ⟨_, rfl⟩
      obtain ⟨FB, hFB⟩ : ∃ FB, FB = Al.flatL s.body := ⟨_, rfl⟩
      obtain ⟨FE, hFE⟩ : ∃ FE, FE = Al.flatL s.els := ⟨_, rfl⟩
      obtain ⟨o1, ho1⟩ : ∃ o1, o1 = flatOk d s.body := ⟨_, rfl⟩
      obtain ⟨o2, ho2⟩ : ∃ o2, o2 = flatOk d s.els := ⟨_, rfl⟩
      have hFB30 : o1 = true → FB.length ≤ 30 := fun h => by rw [hFB]; exact flatOk_len (ho1.symm.trans h)
      have hFE30 : o2 = true → FE.length ≤ 30 := fun h => by rw [hFE]; exact flatOk_len (ho2.symm.trans h)
      rw [← hF0] at hrow hnx hle
      rw [← hFB] at HD1 hnx
      rw [← hFE] at HD2 hnx
      rw [← ho1] at HD1 hall2 hallF
      rw [← ho2] at HD2 hall2 hallF
      replace hF0 := Lib.hid hF0
      replace hFB := Lib.hid hFB
      replace hFE := Lib.hid hFE
      clear ho1 ho2
      replace hnx := Lib.hid hnx
      replace hall2 := Lib.hid hall2
      replace hallF := Lib.hid hallF
      replace hlenF := Lib.hid hlenF
      have r0 : (0 : Int) ≤ (i : Int) := by omega
      have r1 : (i : Int) < (l.length : Int) := by omega
      have r2 : decide ((i : Int) < (l.length : Int)) = true := decide_eq_true r1
      have hw1 : wrap64 ((d : Int) - 1) = (d : Int) - 1 := by unfold wrap64; omega
      have hw2 : IntKind.i64.wrap ((d : Int) - 1) = (d : Int) - 1 := IntWalk.i64_in _ (by omega)
      obtain ⟨cs0, hown0, hcs0⟩ := hrow
      have hsz : w.heap.size ≤ wr.heap.size := hR.size
      have own1 := hown0.alloc (.cells (stmtV s (.slice A6 s.body.length c6) (.slice A7 s.els.length c7)) 66)
      have src1 : (wr.alloc (.cells (stmtV s (.slice A6 s.body.length c6) (.slice A7 s.els.length c7)) 66)).ownsRow w.heap.size 66 8 (.slice (some ⟨wr.heap.size, 0, none⟩) 1 1) 1 (stmtV s (.slice A6 s.body.length c6) (.slice A7 s.els.length c7)).toList :=
        ⟨rfl, .inr ⟨wr.heap.size, 1, _, rfl, hsz, heap_alloc_new _ _, by omega, by unfold maxLen; omega, rfl, rfl⟩⟩
      have bl1 : Below w.heap.size w (wr.alloc (.cells (stmtV s (.slice A6 s.body.length c6) (.slice A7 s.els.length c7)) 66)) := hR.alloc hsz _
      have cs1 := CellsS.single l6 g6 l7 g7
      have one1 := cs1.one
      clear HR
      unfold stmtV at own1 src1 bl1 cs1 one1
      by_cases ho : (o1 && o2) = false
      · have hRv := Lib.hid ((show (o1 && o2) = false → R = false from hallF) ho)
        clear hallF hall2 hlenF hFB30 hFE30
        cases o1
        · go_wp2_with (first
        | (at_builtin; refine append_row rfl (.tmp 28) (.tmp 33) 25 rfl w.heap.size 66 i0 _ 8 96 Tryz.underlying25 hi0 iz0 iz1 iz2 rfl (by omega) _ _ _ rfl own1 w.heap.size _ _ _ rfl src1 one1 (by unfold maxLen; omega) (by omega) (by simp; omega) ?_; intro v1 w1 hown1 hgrow1; obtain ⟨sa1, sc1, rfl⟩ := own_slice hown1; have hb1 := below_grown2 bl1 hgrow1 (fun k hk => (own1.lt k hk).1) (by simp; omega); have hc1 := hcs0.append cs1; have hBB := hB.trans (lower_below hb1 hB.size); have e6 := D6 _ hBB; clear own1 src1 bl1 d0 d1 d2 d3 d4 d5 d6 d7)
        | (go_at_call 63; refine (HD1 w1 hBB).mono ?_; rintro e w2 ⟨v2, rfl, hr2, hb2⟩; have hown2 := own_of hown1 fun k hk => hb2.block k (hown1.lt k hk).2; have hb3 := hb1.trans (lower_below hb2 hb1.size); have hBB2 := hB.trans (lower_below hb3 hB.size); have e7 := D7 _ hBB2; clear e6 HD1)
        | (go_at_call 63; refine (HD2 w2 hBB2).mono ?_; rintro e w4 ⟨v4, rfl, hr4, hb5⟩; have hown4 := own_of hown2 fun k hk => hb5.block k (hown2.lt k hk).2; have hb6 := hb3.trans (lower_below hb5 hb3.size); clear e7 HD2))
          exact bodyPost_ret (v := .tuple #[.slice none 0 0, .bool false]) (by simp [results, Tryz.results63, go_sem]) rfl ⟨_, by rw [show R = false from hRv], (fun h => by rw [show R = false from hRv] at h; cases h), hb6⟩
        · cases o2
          · go_wp2_with (first
        | (at_builtin; refine append_row rfl (.tmp 28) (.tmp 33) 25 rfl w.heap.size 66 i0 _ 8 96 Tryz.underlying25 hi0 iz0 iz1 iz2 rfl (by omega) _ _ _ rfl own1 w.heap.size _ _ _ rfl src1 one1 (by unfold maxLen; omega) (by omega) (by simp; omega) ?_; intro v1 w1 hown1 hgrow1; obtain ⟨sa1, sc1, rfl⟩ := own_slice hown1; have hb1 := below_grown2 bl1 hgrow1 (fun k hk => (own1.lt k hk).1) (by simp; omega); have hc1 := hcs0.append cs1; have hBB := hB.trans (lower_below hb1 hB.size); have e6 := D6 _ hBB; clear own1 src1 bl1 d0 d1 d2 d3 d4 d5 d6 d7)
        | (go_at_call 63; refine (HD1 w1 hBB).mono ?_; rintro e w2 ⟨v2, rfl, hr2, hb2⟩; have hown2 := own_of hown1 fun k hk => hb2.block k (hown1.lt k hk).2; have hb3 := hb1.trans (lower_below hb2 hb1.size); have hBB2 := hB.trans (lower_below hb3 hB.size); have e7 := D7 _ hBB2; clear e6 HD1)
        | (go_at_call 63; refine (HD2 w2 hBB2).mono ?_; rintro e w4 ⟨v4, rfl, hr4, hb5⟩; have hown4 := own_of hown2 fun k hk => hb5.block k (hown2.lt k hk).2; have hb6 := hb3.trans (lower_below hb5 hb3.size); clear e7 HD2))
            exact bodyPost_ret (v := .tuple #[.slice none 0 0, .bool false]) (by simp [results, Tryz.results63, go_sem]) rfl ⟨_, by rw [show R = false from hRv], (fun h => by rw [show R = false from hRv] at h; cases h), hb6⟩
          · cases ho
      obtain ⟨rfl, rfl⟩ : o1 = true ∧ o2 = true := by cases o1 <;> cases o2 <;> simp at ho <;> exact ⟨rfl, rfl⟩
      clear ho
      have hFBl := hFB30 rfl
      have hFEl := hFE30 rfl
      clear hFB30 hFE30
      obtain ⟨n5, hn5⟩ : ∃ n, n = F0.length + 1 + FB.length + FE.length := ⟨_, rfl⟩
      have hlt : (Al.flatL (l.take (i + 1))).length = n5 := by rw [show Al.flatL (l.take (i + 1)) = _ from hnx, hn5]; simp only [List.length_append, List.length_cons, List.length_nil]
      have hn5l : n5 ≤ 91 := by omega
      replace hn5 := Lib.hid hn5
      by_cases c5 : (30 : Int) < n5
      · have t5 : decide ((30 : Int) < (n5 : Int)) = true := decide_eq_true c5
        have hRv := Lib.hid ((show 30 < (Al.flatL (l.take (i + 1))).length → R = false from hlenF) (by omega))
        replace hlt := Lib.hid hlt
        clear hlenF hallF hall2
        go_wp2_with (first
        | (at_builtin; refine append_row rfl (.tmp 28) (.tmp 33) 25 rfl w.heap.size 66 i0 _ 8 96 Tryz.underlying25 hi0 iz0 iz1 iz2 rfl (by omega) _ _ _ rfl own1 w.heap.size _ _ _ rfl src1 one1 (by unfold maxLen; omega) (by omega) (by simp; omega) ?_; intro v1 w1 hown1 hgrow1; obtain ⟨sa1, sc1, rfl⟩ := own_slice hown1; have hb1 := below_grown2 bl1 hgrow1 (fun k hk => (own1.lt k hk).1) (by simp; omega); have hc1 := hcs0.append cs1; have hBB := hB.trans (lower_below hb1 hB.size); have e6 := D6 _ hBB; clear own1 src1 bl1 d0 d1 d2 d3 d4 d5 d6 d7)
        | (go_at_call 63; refine (HD1 w1 hBB).mono ?_; rintro e w2 ⟨v2, rfl, hr2, hb2⟩; obtain ⟨cs2, ho2', hc2⟩ := hr2 (by trivial); obtain ⟨sa2, sc2, rfl⟩ := own_slice ho2'; have one2 := hc2.one;  have hown2 := own_of hown1 fun k hk => hb2.block k (hown1.lt k hk).2; have hb3 := hb1.trans (lower_below hb2 hb1.size); have hBB2 := hB.trans (lower_below hb3 hB.size); have e7 := D7 _ hBB2; clear e6 HD1)
        | (go_at_call 63; refine (HD2 w2 hBB2).mono ?_; rintro e w4 ⟨v4, rfl, hr4, hb5⟩; obtain ⟨cs4, ho4, hc4⟩ := hr4 (by trivial); obtain ⟨sa4, sc4, rfl⟩ := own_slice ho4; have one4 := hc4.one; have ho2 := own_of ho2' fun k hk => hb5.block k (ho2'.lt k hk).2; have hown6 := own_of hown2 fun k hk => hb5.block k (hown2.lt k hk).2; have hsep := own_apart hown2 rfl ho4; have hb6 := hb3.trans (lower_below hb5 hb3.size); clear e7 HD2)
        | (at_builtin; refine append_row rfl (.tmp 65) (.tmp 66) 25 rfl w.heap.size 66 i0 _ 8 96 Tryz.underlying25 hi0 iz0 iz1 iz2 rfl (by omega) _ _ _ rfl hown6 w1.heap.size _ _ _ rfl ho2 one2 (by unfold maxLen; omega) (by omega) hb6.size ?_; intro v3 w3 hown3 hgrow3; have hne := own_ne_keep ho4 hown6 hgrow3 hsep; have hb7 := below_grown2 hb6 hgrow3 (fun k hk => (hown6.lt k hk).1) hb6.size; have hc3 := hc1.append hc2; clear ho2 hown6)
        | (at_builtin; refine append_row rfl (.tmp 67) (.tmp 68) 25 rfl w.heap.size 66 i0 _ 8 96 Tryz.underlying25 hi0 iz0 iz1 iz2 rfl (by omega) _ _ _ rfl hown3 w2.heap.size _ _ _ rfl hne one4 (by unfold maxLen; omega) (by omega) hb7.size ?_; intro v5 w5 hown5 hgrow5; have hb8 := below_grown2 hb7 hgrow5 (fun k hk => (hown3.lt k hk).1) hb7.size; have hc5 := hc3.append hc4; obtain ⟨sa5, sc5, hv5⟩ := own_slice hown5; rw [← (show n5 = _ from hn5)] at hv5 hown5; subst hv5; clear hown3 hne))
        exact bodyPost_ret (v := .tuple #[.slice none 0 0, .bool false]) (by simp [results, Tryz.results63, go_sem]) rfl ⟨_, by rw [show R = false from hRv], (fun h => by rw [show R = false from hRv] at h; cases h), hb8⟩
      have t5 : decide ((30 : Int) < (n5 : Int)) = false := decide_eq_false c5
      have hle5 : (Al.flatL (l.take (i + 1))).length ≤ 30 := by omega
      have hlt2 := Lib.hid hlt
      replace hle5 := Lib.hid hle5
      clear hlenF hallF hlt
      go_wp2_with (first
        | (at_builtin; refine append_row rfl (.tmp 28) (.tmp 33) 25 rfl w.heap.size 66 i0 _ 8 96 Tryz.underlying25 hi0 iz0 iz1 iz2 rfl (by omega) _ _ _ rfl own1 w.heap.size _ _ _ rfl src1 one1 (by unfold maxLen; omega) (by omega) (by simp; omega) ?_; intro v1 w1 hown1 hgrow1; obtain ⟨sa1, sc1, rfl⟩ := own_slice hown1; have hb1 := below_grown2 bl1 hgrow1 (fun k hk => (own1.lt k hk).1) (by simp; omega); have hc1 := hcs0.append cs1; have hBB := hB.trans (lower_below hb1 hB.size); have e6 := D6 _ hBB; clear own1 src1 bl1 d0 d1 d2 d3 d4 d5 d6 d7)
        | (go_at_call 63; refine (HD1 w1 hBB).mono ?_; rintro e w2 ⟨v2, rfl, hr2, hb2⟩; obtain ⟨cs2, ho2', hc2⟩ := hr2 (by trivial); obtain ⟨sa2, sc2, rfl⟩ := own_slice ho2'; have one2 := hc2.one;  have hown2 := own_of hown1 fun k hk => hb2.block k (hown1.lt k hk).2; have hb3 := hb1.trans (lower_below hb2 hb1.size); have hBB2 := hB.trans (lower_below hb3 hB.size); have e7 := D7 _ hBB2; clear e6 HD1)
        | (go_at_call 63; refine (HD2 w2 hBB2).mono ?_; rintro e w4 ⟨v4, rfl, hr4, hb5⟩; obtain ⟨cs4, ho4, hc4⟩ := hr4 (by trivial); obtain ⟨sa4, sc4, rfl⟩ := own_slice ho4; have one4 := hc4.one; have ho2 := own_of ho2' fun k hk => hb5.block k (ho2'.lt k hk).2; have hown6 := own_of hown2 fun k hk => hb5.block k (hown2.lt k hk).2; have hsep := own_apart hown2 rfl ho4; have hb6 := hb3.trans (lower_below hb5 hb3.size); clear e7 HD2)
        | (at_builtin; refine append_row rfl (.tmp 65) (.tmp 66) 25 rfl w.heap.size 66 i0 _ 8 96 Tryz.underlying25 hi0 iz0 iz1 iz2 rfl (by omega) _ _ _ rfl hown6 w1.heap.size _ _ _ rfl ho2 one2 (by unfold maxLen; omega) (by omega) hb6.size ?_; intro v3 w3 hown3 hgrow3; have hne := own_ne_keep ho4 hown6 hgrow3 hsep; have hb7 := below_grown2 hb6 hgrow3 (fun k hk => (hown6.lt k hk).1) hb6.size; have hc3 := hc1.append hc2; clear ho2 hown6)
        | (at_builtin; refine append_row rfl (.tmp 67) (.tmp 68) 25 rfl w.heap.size 66 i0 _ 8 96 Tryz.underlying25 hi0 iz0 iz1 iz2 rfl (by omega) _ _ _ rfl hown3 w2.heap.size _ _ _ rfl hne one4 (by unfold maxLen; omega) (by omega) hb7.size ?_; intro v5 w5 hown5 hgrow5; have hb8 := below_grown2 hb7 hgrow5 (fun k hk => (hown3.lt k hk).1) hb7.size; have hc5 := hc3.append hc4; obtain ⟨sa5, sc5, hv5⟩ := own_slice hown5; rw [← (show n5 = _ from hn5)] at hv5 hown5; subst hv5; clear hown3 hne))
      have HN : Hid ((l.take (i + 1)).all (fun s => flatOk d s.body && flatOk d s.els) = true ∧ (Al.flatL (l.take (i + 1))).length ≤ 30 ∧ RowS W0 w5 w.heap.size (.slice sa5 n5 sc5) (Al.flatL (l.take (i + 1))) ∧ Below w.heap.size w w5) := by
        have hx : RowS W0 w5 w.heap.size (.slice sa5 n5 sc5) (Al.flatL (l.take (i + 1))) := by
          generalize hcc : cs0 ++ _ ++ cs2 ++ cs4 = cs9 at hown5 hc5
          exact ⟨cs9, by rw [show (Al.flatL (l.take (i + 1))).length = n5 from hlt2]; exact hown5, by rw [show Al.flatL (l.take (i + 1)) = _ from hnx]; exact hc5⟩
        exact show _ ∧ _ from ⟨hall2, hle5, hx, hb8⟩
      go_roundg k1
      case measure => omega
      case rel => exact ⟨i + 1, by simp, by omega, by omega, HN⟩
    · have hie : i = l.length := by omega
      have t2 : decide ((i : Int) < (l.length : Int)) = false := by simp; omega
      rw [show l.take i = l by rw [hie, List.take_length]] at hrow hall hle
      have hRv : R = true := by rw [show R = _ from HR0, hall, decide_eq_true hle]; rfl
      replace hRv := Lib.hid hRv
      go_wp2_with fail
      exact bodyPost_ret (v := .tuple #[u8, .bool true]) (by simp [results, Tryz.results63, go_sem]) rfl ⟨_, by rw [show R = true from hRv], fun _ => hrow, hR⟩
theorem flatm_all {W0 : World} : ∀ (d : Nat), d ≤ 1000 → FlatMC W0 d
  | 0, _ => flatm_neg
  | d + 1, h => flatm_step (by omega) (flatm_all d (by omega))
end Go.Proofs.YtkplfaionpplaaaGreatDoor
namespace Go.Proofs.YtkplfaionpplaaaGreatDoor
open Go.RowKit Go.Proofs.YtkplfaionpplaaaGreatDoorW.PrintWords
theorem flat_get : ∀ (l : List Al.Stmt) (i : Nat) (h : i < l.length) {t : Al.Stmt}, t ∈ Al.flatS l[i] → t ∈ Al.flatL l
  | s :: l, 0, _, t, ht => by simp only [Al.flatL]; exact List.mem_append_left _ ht
  | s :: l, i + 1, h, t, ht => by simp only [Al.flatL]; exact List.mem_append_right _ (flat_get l i (by simpa using h) ht)
def WorkMC (W0 : World) (d : Nat) : Prop := ∀ (l : List Al.Stmt) (A : Option Addr) (cap : Nat) (dd : Int), dd = (d : Int) - 1 → kStmt.C W0 A l.length l → l.length ≤ 1000000000 → (∀ s ∈ Al.flatL l, s.body.length ≤ 1000000000 ∧ s.els.length ≤ 1000000000) → ∀ w, Below W0.heap.size W0 w →
  Calls Tryz.prog 64 #[.slice A l.length cap, .int .i64 dd] w fun e w' => e = .returned (.int .i64 (Al.workF d l)) ∧ Below w.heap.size w w'
set_option maxRecDepth 100000 in
set_option maxHeartbeats 1600000 in
theorem work_neg {W0 : World} : WorkMC W0 0 := by
  intro l A cap dd hdd hl hll hsub w hB
  have t0 : decide (dd < 0) = true := decide_eq_true (by omega)
  clear hdd
  go_enter Tryz.func64, Tryz.ntmps64
  go_wp2_with fail
  exact bodyPost_ret (v := .int .i64 1000) (by simp [results, Tryz.results64, go_sem]) rfl ⟨rfl, Below.refl _ _⟩
set_option maxRecDepth 100000 in
set_option maxHeartbeats 6400000 in
theorem work_step {W0 : World} {d : Nat} (hd13 : d ≤ 1000) (hm : WorkMC W0 d) : WorkMC W0 (d + 1) := by
  intro l A cap dd hdd hl hll hsub w hB
  obtain rfl : dd = (d : Int) := by omega
  clear hdd
  obtain ⟨R, hR0⟩ : ∃ R, R = Al.goW (Al.workF d) l 0 := ⟨_, rfl⟩
  have hF : Al.workF (d + 1) l = min R 1000 := by rw [hR0]; rfl
  rw [hF]
  have td : decide ((d : Int) < 0) = false := decide_eq_false (by omega)
  have HL := Lib.hid hl
  have HB := Lib.hid hB
  have HS := Lib.hid hsub
  have HR0 := Lib.hid hR0
  clear hl hB hR0 hF hsub
  go_enter Tryz.func64, Tryz.ntmps64
  go_wp2_with fail
  go_loopg [5, 6, 7, 8, 9] (l.length + 1) (fun gk v5 v6 v7 v8 v9 w' => ∃ (i : Nat) (n : Int), v6 = .int .i64 i ∧ v5 = .int .i64 n ∧ i + gk = l.length + 1 ∧ i ≤ l.length ∧ 0 ≤ n ∧ n ≤ 2000000 ∧ Hid (Al.goW (Al.workF d) (l.drop i) n = R ∧ Below w.heap.size w w'))
  case atStart => exact ⟨0, 0, rfl, rfl, by omega, by omega, by omega, by omega, show _ ∧ _ from ⟨(show R = _ from HR0).symm, Below.refl _ _⟩⟩
  case round =>
    obtain ⟨i, n, rfl, rfl, hg, hi2, hn0, hn1, HR⟩ := hrel
    obtain ⟨hgo, hR⟩ := show Al.goW (Al.workF d) (l.drop i) n = R ∧ Below w.heap.size w wr from HR
    have hB := show Below W0.heap.size W0 w from HB
    have hB1 : Below W0.heap.size W0 wr := hB.trans (lower_below hR hB.size)
    by_cases hil : i < l.length
    · have r0 : (0 : Int) ≤ (i : Int) := by omega
      have r1 : (i : Int) < (l.length : Int) := by omega
      have r2 : decide ((i : Int) < (l.length : Int)) = true := decide_eq_true r1
      rw [List.drop_eq_getElem_cons hil] at hgo
      unfold Al.goW at hgo
      by_cases hn : n < 1000
      · rw [if_pos hn] at hgo
        have r3 : decide (n < 1000) = true := decide_eq_true hn
        obtain ⟨k1, rfl⟩ : ∃ k1, gk = k1 + 1 := ⟨gk - 1, by omega⟩
        obtain ⟨ad, A6, c6, A7, c7, rfl, d0, d1, d2, d3, d4, d5, d6, d7, l6, g6, l7, g7⟩ := at_T902 (show kStmt.C W0 A l.length l from HL) (i : Int) (by omega) (by omega)
        clear d1 d2 d3 d4
        replace d0 := cell_since hB1 d0
        replace d5 := cell_since hB1 d5
        replace d6 := cell_since hB1 d6
        replace d7 := cell_since hB1 d7
        simp only [Int.toNat_natCast] at d0 d5 d6 d7
        obtain ⟨s, hs⟩ : ∃ s, s = rd_T902 l (i : Int) := ⟨_, rfl⟩
        simp only [← hs] at d0 d5 d6 d7 l6 g6 l7 g7
        rw [rd_get l i hil] at hs
        rw [← hs] at hgo
        have hmem : ∀ t ∈ Al.flatS s, t ∈ Al.flatL l := fun t ht => flat_get l i hil (by rw [← hs]; exact ht)
        have hsub := show ∀ s ∈ Al.flatL l, s.body.length ≤ 1000000000 ∧ s.els.length ≤ 1000000000 from HS
        have hss := hsub s (hmem s (Al.flat_self s))
        have hsb : ∀ t ∈ Al.flatL s.body, t.body.length ≤ 1000000000 ∧ t.els.length ≤ 1000000000 := fun t ht => hsub t (hmem t (Al.flat_bodyS ht))
        have hse : ∀ t ∈ Al.flatL s.els, t.body.length ≤ 1000000000 ∧ t.els.length ≤ 1000000000 := fun t ht => hsub t (hmem t (by rw [flatS_eq]; exact List.mem_cons_of_mem _ (List.mem_append_right _ ht)))
        have HD1 := fun w1 dd hdd => hm s.body A6 c6 dd hdd g6 hss.1 hsb w1
        have HD2 := fun w1 dd hdd => hm s.els A7 c7 dd hdd g7 hss.2 hse w1
        clear hmem hsub hss hsb hse hs
        have hx1 := Al.workF_le d s.body
        have hx0 := Al.workF_nonneg d s.body
        have hy1 := Al.workF_le d s.els
        have hy0 := Al.workF_nonneg d s.els
        obtain ⟨nn, hnn⟩ : ∃ nn, nn = Al.wS (Al.workF d) s := ⟨_, rfl⟩
        rw [← hnn] at hgo
        unfold Al.wS at hnn
        obtain ⟨x, hx⟩ : ∃ x, x = Al.workF d s.body := ⟨_, rfl⟩
        obtain ⟨y, hy⟩ : ∃ y, y = Al.workF d s.els := ⟨_, rfl⟩
        rw [← hx] at HD1 hnn hx1 hx0
        rw [← hy] at HD2 hnn hy1 hy0
        clear hx hy
        obtain ⟨mm, hmm⟩ : ∃ mm, mm = min (x + y) 1000 := ⟨_, rfl⟩
        rw [← hmm] at hnn
        have hm0 : 0 ≤ mm := by omega
        have hm1 : mm ≤ 1000 := by omega
        obtain ⟨kk, hkk⟩ : ∃ kk, kk = max (min s.k 1000) 1 := ⟨_, rfl⟩
        rw [← hkk] at hnn
        have hk0 : 1 ≤ kk := by omega
        have hk1 : kk ≤ 1000 := by omega
        have hmk0 : 0 ≤ mm * kk := Int.mul_nonneg hm0 (by omega)
        have hmk1 : mm * kk ≤ 1000 * 1000 := Int.mul_le_mul hm1 hk1 (by omega) (by omega)
        replace hmm := Lib.hid hmm
        replace hkk := Lib.hid hkk
        replace hgo := Lib.hid hgo
        have hw1 : wrap64 (x + y) = x + y := by unfold wrap64; omega
        have hw0 : wrap64 ((d : Int) - 1) = (d : Int) - 1 := by unfold wrap64; omega
        have hw2 : IntKind.i64.wrap ((d : Int) - 1) = (d : Int) - 1 := IntWalk.i64_in _ (by omega)
        have hBd : Below W0.heap.size W0 wr.drew := below_drew' hB1
        by_cases p7 : s.op = 7
        · have q7 : (s.op == 7) = true := by rw [p7]; rfl
          have q15 : (s.op == 15) = false := by rw [p7]; rfl
          have q16 : (s.op == 16) = false := by rw [p7]; rfl
          rw [if_pos p7, if_neg (by omega)] at hnn
          clear p7
          clear HR
          go_wp2_with fail
          go_region_held3 (fun w' => w'.cell? ⟨(ad.add (i * 8)).block, (ad.add (i * 8)).off + 6, none⟩ = some (.slice A6 s.body.length c6) ∧ w'.cell? ⟨(ad.add (i * 8)).block, (ad.add (i * 8)).off + 7, none⟩ = some (.slice A7 s.els.length c7)) ((constructor <;> assumption)) (first
            | (go_at_call 64; refine (HD1 _ _ (by first | exact hw2 | exact hw0 | rfl) hBd).mono ?_; rintro e w2 ⟨rfl, hb2⟩; replace hb2 := undrew hb2; have hB2 := hB1.trans (lower_below hb2 hB1.size); have e6 := cell_since hb2 d6; have e7 := cell_since hb2 d7; have e0 := cell_since hb2 d0; have e5 := cell_since hb2 d5; clear d0 d5 d6 d7 HD1)
            | (go_at_call 64; refine (HD2 _ _ (by first | exact hw2 | exact hw0 | rfl) hB2).mono ?_; rintro e w3 ⟨rfl, hb3⟩; have f6 := cell_since hb3 e6; have f7 := cell_since hb3 e7; have f0 := cell_since hb3 e0; have f5 := cell_since hb3 e5; clear e0 e5 e6 e7 HD2))
          have hR3 : Hid (Below w.heap.size w w3) := Lib.hid ((hR.trans (lower_below hb2 hR.size)).trans (lower_below hb3 (Nat.le_trans hR.size hb2.size)))
          clear hb2 hb3 hB2 hBd f6 f7
          have hw : IntKind.i64.wrap (x + y) = x + y := IntWalk.i64_in _ (by omega)
          try rw [hw]
          have hV : (if 1000 < x + y then 1000 else x + y) = mm := by rw [show mm = _ from hmm]; split <;> omega
          rw [hV]
          clear hV hw hw0 hw1 hw2 hmm
          have g0 := f0
          have g5 := f5
          replace hnn := Lib.hid hnn
          have hnE : n + nn = n + 8 + mm := by rw [show nn = _ from hnn]; omega
          have HN : Hid (Al.goW (Al.workF d) (l.drop (i + 1)) (n + 8 + mm) = R ∧ Below w.heap.size w w3) := show _ ∧ _ from ⟨by rw [← hnE]; exact hgo, hR3⟩
          clear hnE
          go_wp2_with fail
          go_roundg k1
          case measure => omega
          case rel => exact ⟨i + 1, n + 8 + mm, by simp, rfl, by omega, by omega, by omega, by omega, HN⟩
        have q7 : (s.op == 7) = false := beq_false_of_ne p7
        rw [if_neg p7] at hnn
        by_cases p15 : s.op = 15
        · have q15 : (s.op == 15) = true := by rw [p15]; rfl
          rw [if_pos (.inl p15)] at hnn
          clear p7 p15
          clear HR
          go_wp2_with fail
          go_region_held3 (fun w' => w'.cell? ⟨(ad.add (i * 8)).block, (ad.add (i * 8)).off + 6, none⟩ = some (.slice A6 s.body.length c6) ∧ w'.cell? ⟨(ad.add (i * 8)).block, (ad.add (i * 8)).off + 7, none⟩ = some (.slice A7 s.els.length c7)) ((constructor <;> assumption)) (first
            | (go_at_call 64; refine (HD1 _ _ (by first | exact hw2 | exact hw0 | rfl) hBd).mono ?_; rintro e w2 ⟨rfl, hb2⟩; replace hb2 := undrew hb2; have hB2 := hB1.trans (lower_below hb2 hB1.size); have e6 := cell_since hb2 d6; have e7 := cell_since hb2 d7; have e0 := cell_since hb2 d0; have e5 := cell_since hb2 d5; clear d0 d5 d6 d7 HD1)
            | (go_at_call 64; refine (HD2 _ _ (by first | exact hw2 | exact hw0 | rfl) hB2).mono ?_; rintro e w3 ⟨rfl, hb3⟩; have f6 := cell_since hb3 e6; have f7 := cell_since hb3 e7; have f0 := cell_since hb3 e0; have f5 := cell_since hb3 e5; clear e0 e5 e6 e7 HD2))
          have hR3 : Hid (Below w.heap.size w w3) := Lib.hid ((hR.trans (lower_below hb2 hR.size)).trans (lower_below hb3 (Nat.le_trans hR.size hb2.size)))
          clear hb2 hb3 hB2 hBd f6 f7
          have hw : IntKind.i64.wrap (x + y) = x + y := IntWalk.i64_in _ (by omega)
          try rw [hw]
          have hV : (if 1000 < x + y then 1000 else x + y) = mm := by rw [show mm = _ from hmm]; split <;> omega
          rw [hV]
          clear hV hw hw0 hw1 hw2 hmm
          have g0 := f0
          have g5 := f5
          replace hnn := Lib.hid hnn
          by_cases k1000 : 1000 < s.k
          · obtain rfl : kk = 1000 := by rw [show kk = _ from hkk]; omega
            have hnE : n + nn = n + 1 + mm * 1000 := by rw [show nn = _ from hnn]; omega
            have HN : Hid (Al.goW (Al.workF d) (l.drop (i + 1)) (n + 1 + mm * 1000) = R ∧ Below w.heap.size w w3) := show _ ∧ _ from ⟨by rw [← hnE]; exact hgo, hR3⟩
            clear hnE
            go_wp2_with fail
            go_roundg k1
            case measure => omega
            case rel => exact ⟨i + 1, n + 1 + mm * 1000, by simp, rfl, by omega, by omega, by omega, by omega, HN⟩
          by_cases kone : s.k < 1
          · obtain rfl : kk = 1 := by rw [show kk = _ from hkk]; omega
            have hnE : n + nn = n + 1 + mm := by rw [show nn = _ from hnn]; omega
            have HN : Hid (Al.goW (Al.workF d) (l.drop (i + 1)) (n + 1 + mm) = R ∧ Below w.heap.size w w3) := show _ ∧ _ from ⟨by rw [← hnE]; exact hgo, hR3⟩
            clear hnE
            go_wp2_with fail
            go_roundg k1
            case measure => omega
            case rel => exact ⟨i + 1, n + 1 + mm, by simp, rfl, by omega, by omega, by omega, by omega, HN⟩
          obtain rfl : kk = s.k := by rw [show kk = _ from hkk]; omega
          have kw2 : wrap64 (mm * s.k) = mm * s.k := by unfold wrap64; omega
          have kw3 : wrap64 (n + 1 + mm * s.k) = n + 1 + mm * s.k := by unfold wrap64; omega
          have hnE : n + nn = n + 1 + mm * s.k := by rw [show nn = _ from hnn]; omega
          have HN : Hid (Al.goW (Al.workF d) (l.drop (i + 1)) (n + 1 + mm * s.k) = R ∧ Below w.heap.size w w3) := show _ ∧ _ from ⟨by rw [← hnE]; exact hgo, hR3⟩
          clear hnE
          go_wp2_with fail
          go_roundg k1
          case measure => omega
          case rel => exact ⟨i + 1, n + 1 + mm * s.k, by simp, rfl, by omega, by omega, by omega, by omega, HN⟩
        have q15 : (s.op == 15) = false := beq_false_of_ne p15
        by_cases p16 : s.op = 16
        · have q16 : (s.op == 16) = true := by rw [p16]; rfl
          rw [if_pos (.inr p16)] at hnn
          clear p7 p15 p16
          clear HR
          go_wp2_with fail
          go_region_held3 (fun w' => w'.cell? ⟨(ad.add (i * 8)).block, (ad.add (i * 8)).off + 6, none⟩ = some (.slice A6 s.body.length c6) ∧ w'.cell? ⟨(ad.add (i * 8)).block, (ad.add (i * 8)).off + 7, none⟩ = some (.slice A7 s.els.length c7)) ((constructor <;> assumption)) (first
            | (go_at_call 64; refine (HD1 _ _ (by first | exact hw2 | exact hw0 | rfl) hBd).mono ?_; rintro e w2 ⟨rfl, hb2⟩; replace hb2 := undrew hb2; have hB2 := hB1.trans (lower_below hb2 hB1.size); have e6 := cell_since hb2 d6; have e7 := cell_since hb2 d7; have e0 := cell_since hb2 d0; have e5 := cell_since hb2 d5; clear d0 d5 d6 d7 HD1)
            | (go_at_call 64; refine (HD2 _ _ (by first | exact hw2 | exact hw0 | rfl) hB2).mono ?_; rintro e w3 ⟨rfl, hb3⟩; have f6 := cell_since hb3 e6; have f7 := cell_since hb3 e7; have f0 := cell_since hb3 e0; have f5 := cell_since hb3 e5; clear e0 e5 e6 e7 HD2))
          have hR3 : Hid (Below w.heap.size w w3) := Lib.hid ((hR.trans (lower_below hb2 hR.size)).trans (lower_below hb3 (Nat.le_trans hR.size hb2.size)))
          clear hb2 hb3 hB2 hBd f6 f7
          have hw : IntKind.i64.wrap (x + y) = x + y := IntWalk.i64_in _ (by omega)
          try rw [hw]
          have hV : (if 1000 < x + y then 1000 else x + y) = mm := by rw [show mm = _ from hmm]; split <;> omega
          rw [hV]
          clear hV hw hw0 hw1 hw2 hmm
          have g0 := f0
          have g5 := f5
          replace hnn := Lib.hid hnn
          by_cases k1000 : 1000 < s.k
          · obtain rfl : kk = 1000 := by rw [show kk = _ from hkk]; omega
            have hnE : n + nn = n + 1 + mm * 1000 := by rw [show nn = _ from hnn]; omega
            have HN : Hid (Al.goW (Al.workF d) (l.drop (i + 1)) (n + 1 + mm * 1000) = R ∧ Below w.heap.size w w3) := show _ ∧ _ from ⟨by rw [← hnE]; exact hgo, hR3⟩
            clear hnE
            go_wp2_with fail
            go_roundg k1
            case measure => omega
            case rel => exact ⟨i + 1, n + 1 + mm * 1000, by simp, rfl, by omega, by omega, by omega, by omega, HN⟩
          by_cases kone : s.k < 1
          · obtain rfl : kk = 1 := by rw [show kk = _ from hkk]; omega
            have hnE : n + nn = n + 1 + mm := by rw [show nn = _ from hnn]; omega
            have HN : Hid (Al.goW (Al.workF d) (l.drop (i + 1)) (n + 1 + mm) = R ∧ Below w.heap.size w w3) := show _ ∧ _ from ⟨by rw [← hnE]; exact hgo, hR3⟩
            clear hnE
            go_wp2_with fail
            go_roundg k1
            case measure => omega
            case rel => exact ⟨i + 1, n + 1 + mm, by simp, rfl, by omega, by omega, by omega, by omega, HN⟩
          obtain rfl : kk = s.k := by rw [show kk = _ from hkk]; omega
          have kw2 : wrap64 (mm * s.k) = mm * s.k := by unfold wrap64; omega
          have kw3 : wrap64 (n + 1 + mm * s.k) = n + 1 + mm * s.k := by unfold wrap64; omega
          have hnE : n + nn = n + 1 + mm * s.k := by rw [show nn = _ from hnn]; omega
          have HN : Hid (Al.goW (Al.workF d) (l.drop (i + 1)) (n + 1 + mm * s.k) = R ∧ Below w.heap.size w w3) := show _ ∧ _ from ⟨by rw [← hnE]; exact hgo, hR3⟩
          clear hnE
          go_wp2_with fail
          go_roundg k1
          case measure => omega
          case rel => exact ⟨i + 1, n + 1 + mm * s.k, by simp, rfl, by omega, by omega, by omega, by omega, HN⟩
        have q16 : (s.op == 16) = false := beq_false_of_ne p16
        rw [if_neg (by omega)] at hnn
        clear p7 p15 p16
        clear HR
        go_wp2_with fail
        go_region_held3 (fun w' => w'.cell? ⟨(ad.add (i * 8)).block, (ad.add (i * 8)).off + 6, none⟩ = some (.slice A6 s.body.length c6) ∧ w'.cell? ⟨(ad.add (i * 8)).block, (ad.add (i * 8)).off + 7, none⟩ = some (.slice A7 s.els.length c7)) ((constructor <;> assumption)) (first
          | (go_at_call 64; refine (HD1 _ _ (by first | exact hw2 | exact hw0 | rfl) hBd).mono ?_; rintro e w2 ⟨rfl, hb2⟩; replace hb2 := undrew hb2; have hB2 := hB1.trans (lower_below hb2 hB1.size); have e6 := cell_since hb2 d6; have e7 := cell_since hb2 d7; have e0 := cell_since hb2 d0; have e5 := cell_since hb2 d5; clear d0 d5 d6 d7 HD1)
          | (go_at_call 64; refine (HD2 _ _ (by first | exact hw2 | exact hw0 | rfl) hB2).mono ?_; rintro e w3 ⟨rfl, hb3⟩; have f6 := cell_since hb3 e6; have f7 := cell_since hb3 e7; have f0 := cell_since hb3 e0; have f5 := cell_since hb3 e5; clear e0 e5 e6 e7 HD2))
        have hR3 : Hid (Below w.heap.size w w3) := Lib.hid ((hR.trans (lower_below hb2 hR.size)).trans (lower_below hb3 (Nat.le_trans hR.size hb2.size)))
        clear hb2 hb3 hB2 hBd f6 f7
        have hw : IntKind.i64.wrap (x + y) = x + y := IntWalk.i64_in _ (by omega)
        try rw [hw]
        have hV : (if 1000 < x + y then 1000 else x + y) = mm := by rw [show mm = _ from hmm]; split <;> omega
        rw [hV]
        clear hV hw hw0 hw1 hw2 hmm
        have g0 := f0
        have g5 := f5
        replace hnn := Lib.hid hnn
        have hnE : n + nn = n + 1 + mm := by rw [show nn = _ from hnn]; omega
        have HN : Hid (Al.goW (Al.workF d) (l.drop (i + 1)) (n + 1 + mm) = R ∧ Below w.heap.size w w3) := show _ ∧ _ from ⟨by rw [← hnE]; exact hgo, hR3⟩
        clear hnE
        go_wp2_with fail
        go_roundg k1
        case measure => omega
        case rel => exact ⟨i + 1, n + 1 + mm, by simp, rfl, by omega, by omega, by omega, by omega, HN⟩
      · rw [if_neg hn] at hgo
        have r3 : decide (n < 1000) = false := decide_eq_false hn
        have hmin : min R 1000 = 1000 := by omega
        replace hmin := Lib.hid hmin
        clear hgo
        by_cases hc : 1000 < n
        · go_wp2_with fail
          exact bodyPost_ret (v := .int .i64 1000) (by simp [results, Tryz.results64, go_sem]) rfl ⟨by rw [show min R 1000 = 1000 from hmin], hR⟩
        · obtain rfl : n = 1000 := by omega
          go_wp2_with fail
          exact bodyPost_ret (v := .int .i64 1000) (by simp [results, Tryz.results64, go_sem]) rfl ⟨by rw [show min R 1000 = 1000 from hmin], hR⟩
    · have hie : i = l.length := by omega
      have r2 : decide ((i : Int) < (l.length : Int)) = false := by simp; omega
      rw [hie, List.drop_length] at hgo
      have hRn : n = R := hgo
      clear hgo
      by_cases hc : 1000 < n
      · have hmin : min R 1000 = 1000 := by omega
        replace hmin := Lib.hid hmin
        clear hRn
        go_wp2_with fail
        exact bodyPost_ret (v := .int .i64 1000) (by simp [results, Tryz.results64, go_sem]) rfl ⟨by rw [show min R 1000 = 1000 from hmin], hR⟩
      · have hmin : min R 1000 = n := by omega
        replace hmin := Lib.hid hmin
        clear hRn
        go_wp2_with fail
        exact bodyPost_ret (v := .int .i64 n) (by simp [results, Tryz.results64, go_sem]) rfl ⟨by rw [show min R 1000 = n from hmin], hR⟩
theorem work_all {W0 : World} : ∀ (d : Nat), d ≤ 1000 → WorkMC W0 d
  | 0, _ => work_neg
  | d + 1, h => work_step (by omega) (work_all d (by omega))
end Go.Proofs.YtkplfaionpplaaaGreatDoor
