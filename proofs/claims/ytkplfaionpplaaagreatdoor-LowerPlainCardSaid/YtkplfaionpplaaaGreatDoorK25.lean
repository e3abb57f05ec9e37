/- Part 25: B62, P32. -/
import Derived.Test.YtkplfaionpplaaaGreatDoorK24
set_option linter.unusedVariables false
set_option linter.unusedSimpArgs false
namespace Go.Proofs.YtkplfaionpplaaaGreatDoor
open Go.RowKit
theorem insts_at6 (l : List Al.Inst) (k : Nat) (hk : k < l.length) (j : Nat) (hj : j < 6) : (instsV l)[k * 6 + j]? = (instCells l[k])[j]? := by
  induction l generalizing k with
  | nil => simp at hk
  | cons s l ih =>
    cases k with
    | zero => simp only [instsV, List.flatMap_cons, Nat.zero_mul, Nat.zero_add]; rw [List.getElem?_append_left (by simp [instCells]; omega)]; rfl
    | succ k =>
      have e : (k + 1) * 6 + j = 6 + (k * 6 + j) := by omega
      simp only [instsV, List.flatMap_cons] at ih ⊢
      rw [e, List.getElem?_append_right (by simp [instCells])]
      have := ih k (by simpa using hk)
      simpa [instCells] using this
theorem insts_get {w : World} {base : Nat} {a : Option Addr} {cap : Nat} {L : List Al.Inst} (h : w.ownsRow base 97 6 (.slice a L.length cap) L.length (instsV L)) {j : Nat} (hj : j < L.length) :
    ∃ g, a = some ⟨g, 0, none⟩ ∧ w.cell? ⟨g, j * 6, none⟩ = some (.int .i64 (L[j]).op) ∧ w.cell? ⟨g, j * 6 + 1, none⟩ = some (.int .i64 (L[j]).d) ∧ w.cell? ⟨g, j * 6 + 2, none⟩ = some (.int .i64 (L[j]).a) ∧ w.cell? ⟨g, j * 6 + 3, none⟩ = some (.int .i64 (L[j]).b) ∧ w.cell? ⟨g, j * 6 + 4, none⟩ = some (.int .i64 (L[j]).c) ∧ w.cell? ⟨g, j * 6 + 5, none⟩ = some (.int .i64 (L[j]).k) := by
  obtain ⟨g, c, hv, hgb, hgl⟩ := h.form (by omega)
  simp only [Value.slice.injEq] at hv
  have hl := insts_len L
  obtain ⟨rfl, -, rfl⟩ := hv
  have f : ∀ i, i < 6 → w.cell? ⟨g, j * 6 + i, none⟩ = (instCells L[j])[i]? := fun i hi => by rw [h.cellAt _ (by omega), insts_at6 L j hj i hi]
  exact ⟨g, rfl, f 0 (by omega), f 1 (by omega), f 2 (by omega), f 3 (by omega), f 4 (by omega), f 5 (by omega)⟩
structure RC where
  kc : Nat
  kx : Nat
  kr : Nat
  gm : Nat
  gr : Nat
  mem : Nat
  mcap : Nat
  ia : Option Addr
  ic : Nat
  c : List Al.Inst
/-- a run of words under way -/
structure RW (w0 w : World) (C : RC) (regs mm : List Int) (leaks : List Al.Leak) (vl : Value) (steps : Int) : Prop where
  cb : w.heap[C.kc]? = some (.cells #[.slice C.ia C.c.length C.ic, .int .i64 24, .int .i64 C.mem] 53 (0, 0))
  xb : w.heap[C.kx]? = some (.cells #[.int .i64 0, .slice none 0 0, .slice none 0 0, .int .i64 0, .int .i64 0] 51 (0, 0))
  rb : w.heap[C.kr]? = some (.cells #[.int .i64 0, .slice (some ⟨C.gm, 0, none⟩) C.mem C.mcap, vl, .int .i64 steps, .int .i64 (-1)] 51 (0, 0))
  mo : w.ownsRow w0.heap.size 56 1 (.slice (some ⟨C.gm, 0, none⟩) C.mem C.mcap) C.mem (wordsV mm)
  ro : w.ownsRow w0.heap.size 56 1 (.slice (some ⟨C.gr, 0, none⟩) 25 25) 25 (wordsV regs)
  lo : w.ownsRow w0.heap.size 103 2 vl leaks.length (leaksV leaks)
  b : Below w0.heap.size w0 w
  ne : C.gm ≠ C.gr
  nx : C.kx ≠ C.kr
  nc : C.kc ≠ C.kr
  hr : w0.heap.size ≤ C.kr
  hx : w0.heap.size ≤ C.kx
section
variable {w0 w w' : World} {C : RC} {regs mm : List Int} {leaks : List Al.Leak} {vl : Value} {steps : Int}
theorem RW.of (h : RW w0 w C regs mm leaks vl steps) (hs : ∀ (k : Nat) (o : Obj), w.heap[k]? = some o → w'.heap[k]? = some o) (hb : Below w0.heap.size w0 w') : RW w0 w' C regs mm leaks vl steps :=
  have f : ∀ {base : Nat} {e : TypeId} {size : Nat} {v : Value} {n : Nat} {xs : List Value}, w.ownsRow base e size v n xs → w'.ownsRow base e size v n xs := fun ho => own_of ho fun k hk => by
    obtain ⟨c, hc⟩ := own_type ho hk
    rw [hs k _ hc, hc]
  ⟨hs _ _ h.cb, hs _ _ h.xb, hs _ _ h.rb, f h.mo, f h.ro, f h.lo, hb, h.ne, h.nx, h.nc, h.hr, h.hx⟩
theorem RW.alloc (h : RW w0 w C regs mm leaks vl steps) (o : Obj) : RW w0 (w.alloc o) C regs mm leaks vl steps := h.of (fun k x hx => alloc_blk o hx) (h.b.alloc h.b.size _)
theorem RW.below (h : RW w0 w C regs mm leaks vl steps) (hb : Below w.heap.size w w') : RW w0 w' C regs mm leaks vl steps := h.of (fun k x hx => below_blk hb hx (blk_lt hx)) (h.b.trans (lower_below hb h.b.size))
theorem RW.drew (h : RW w0 w C regs mm leaks vl steps) : RW w0 w.drew C regs mm leaks vl steps := h.of (fun k x hx => hx) (below_drew' h.b)
theorem RW.drewN (h : RW w0 w C regs mm leaks vl steps) (n : Nat) : RW w0 (w.drewN n) C regs mm leaks vl steps := h.of (fun k x hx => hx) ⟨h.b.os, h.b.tape, h.b.output, h.b.size, h.b.block⟩
theorem own_set_ne {w : World} {base k j : Nat} {e t : TypeId} {size : Nat} {v : Value} {n : Nat} {xs : List Value} {c : Array Value} {f : Nat × Nat} (h : w.ownsRow base e size v n xs) (hk : w.heap[k]? = some (.cells c t f)) (ht : t ≠ e) (u : Value) : (w.setCell ⟨k, j, none⟩ u).ownsRow base e size v n xs :=
  own_of h fun i hi => set_blk_ne _ _ fun e2 => own_ne_blk h hk ht (by rw [hi, e2])
theorem RW.kc_ne (h : RW w0 w C regs mm leaks vl steps) : C.kc ≠ C.gr ∧ C.kc ≠ C.gm ∧ C.kx ≠ C.gr ∧ C.kx ≠ C.gm ∧ C.kr ≠ C.gr ∧ C.kr ≠ C.gm :=
  have f : ∀ {k g cap n : Nat} {c : Array Value} {t : TypeId} {xs : List Value}, w.heap[k]? = some (.cells c t (0, 0)) → w.ownsRow w0.heap.size 56 1 (.slice (some ⟨g, 0, none⟩) n cap) n xs → t ≠ 56 → k ≠ g := fun hk ho ht e => by subst e; exact own_ne_blk ho hk ht rfl
  ⟨f h.cb h.ro (by decide), f h.cb h.mo (by decide), f h.xb h.ro (by decide), f h.xb h.mo (by decide), f h.rb h.ro (by decide), f h.rb h.mo (by decide)⟩
/-- a field of the result is written -/
theorem RW.field (h : RW w0 w C regs mm leaks vl steps) (j : Nat) (u : Value) : (w.setCell ⟨C.kr, j, none⟩ u).heap[C.kc]? = w.heap[C.kc]? ∧ (w.setCell ⟨C.kr, j, none⟩ u).heap[C.kx]? = w.heap[C.kx]? ∧
    (w.setCell ⟨C.kr, j, none⟩ u).ownsRow w0.heap.size 56 1 (.slice (some ⟨C.gm, 0, none⟩) C.mem C.mcap) C.mem (wordsV mm) ∧ (w.setCell ⟨C.kr, j, none⟩ u).ownsRow w0.heap.size 56 1 (.slice (some ⟨C.gr, 0, none⟩) 25 25) 25 (wordsV regs) ∧
    (w.setCell ⟨C.kr, j, none⟩ u).ownsRow w0.heap.size 103 2 vl leaks.length (leaksV leaks) ∧ Below w0.heap.size w0 (w.setCell ⟨C.kr, j, none⟩ u) :=
  ⟨set_blk_ne _ _ h.nc, set_blk_ne _ _ h.nx, own_set_ne h.mo h.rb (by decide) u, own_set_ne h.ro h.rb (by decide) u, own_set_ne h.lo h.rb (by decide) u, below_set h.b h.hr⟩
theorem RW.step (h : RW w0 w C regs mm leaks vl steps) (n : Int) : RW w0 (w.setCell ⟨C.kr, 3, none⟩ (.int .i64 n)) C regs mm leaks vl n := by
  obtain ⟨f1, f2, f3, f4, f5, f6⟩ := h.field 3 (.int .i64 n)
  exact ⟨f1.trans h.cb, f2.trans h.xb, by simpa using set_blk h.rb 3 (.int .i64 n), f3, f4, f5, f6, h.ne, h.nx, h.nc, h.hr, h.hx⟩
theorem RW.reg (h : RW w0 w C regs mm leaks vl steps) (j : Nat) (x : Int) : RW w0 (w.setCell ⟨C.gr, j, none⟩ (.int .u64 x)) C (regs.set j x) mm leaks vl steps := by
  obtain ⟨n1, n2, n3, n4, n5, n6⟩ := h.kc_ne
  obtain ⟨c, hc⟩ := own_type h.ro rfl
  exact ⟨by rw [set_blk_ne _ _ n1]; exact h.cb, by rw [set_blk_ne _ _ n3]; exact h.xb, by rw [set_blk_ne _ _ n5]; exact h.rb, own_of h.mo fun k hk => set_blk_ne _ _ (by cases hk; exact h.ne), (word_set h.ro j x).1, own_set_ne h.lo hc (by decide) _, below_set h.b (word_set h.ro j x).2, h.ne, h.nx, h.nc, h.hr, h.hx⟩
theorem RW.word (h : RW w0 w C regs mm leaks vl steps) (j : Nat) (x : Int) : RW w0 (w.setCell ⟨C.gm, j, none⟩ (.int .u64 x)) C regs (mm.set j x) leaks vl steps := by
  obtain ⟨n1, n2, n3, n4, n5, n6⟩ := h.kc_ne
  obtain ⟨c, hc⟩ := own_type h.mo rfl
  exact ⟨by rw [set_blk_ne _ _ n2]; exact h.cb, by rw [set_blk_ne _ _ n4]; exact h.xb, by rw [set_blk_ne _ _ n6]; exact h.rb, (word_set h.mo j x).1, own_of h.ro fun k hk => set_blk_ne _ _ (by cases hk; exact Ne.symm h.ne), own_set_ne h.lo hc (by decide) _, below_set h.b (word_set h.mo j x).2, h.ne, h.nx, h.nc, h.hr, h.hx⟩
/-- a leak is appended, and the field is written -/
theorem RW.leak (h : RW w0 w C regs mm leaks vl steps) {l : Al.Leak} {v1 : Value} {w1 : World} (ho : w1.ownsRow w0.heap.size 103 2 v1 (leaks.length + 1) (leaksV leaks ++ leakCells l)) (hg : w1 = w ∨ w.grownBy w1 vl.ownBlock) :
    RW w0 (w1.setCell ⟨C.kr, 2, none⟩ v1) C regs mm (leaks ++ [l]) v1 steps ∧ w1.cell? ⟨C.kr, 2, none⟩ = some vl ∧ w1.frozen? ⟨C.kr, 2, none⟩ = false := by
  have kb : ∀ {k : Nat} {c : Array Value} {t : TypeId}, w.heap[k]? = some (.cells c t (0, 0)) → t ≠ 103 → w1.heap[k]? = some (.cells c t (0, 0)) := fun hk ht => by
    rcases hg with rfl | hg
    · exact hk
    · exact grow_blk hg hk (own_ne_blk h.lo hk ht)
  have ko : ∀ {g cap n : Nat} {xs : List Value}, w.ownsRow w0.heap.size 56 1 (.slice (some ⟨g, 0, none⟩) n cap) n xs → w1.ownsRow w0.heap.size 56 1 (.slice (some ⟨g, 0, none⟩) n cap) n xs := fun ho => by
    refine own_of ho fun k hk => ?_
    obtain ⟨c, hc⟩ := own_type ho hk
    rw [kb hc (by decide), hc]
  have hb1 : Below w0.heap.size w0 w1 := below_grown2 h.b hg (fun k hk => (h.lo.lt k hk).1) h.b.size
  have r1 := kb h.rb (by decide)
  refine ⟨⟨?_, ?_, by simpa using set_blk r1 2 v1, own_set_ne (ko h.mo) r1 (by decide) _, own_set_ne (ko h.ro) r1 (by decide) _, ?_, below_set hb1 h.hr, h.ne, h.nx, h.nc, h.hr, h.hx⟩, (cell_blk r1 _).trans rfl, frozen_blk r1 _⟩
  · rw [set_blk_ne _ _ h.nc]; exact kb h.cb (by decide)
  · rw [set_blk_ne _ _ h.nx]; exact kb h.xb (by decide)
  · have := own_set_ne (j := 2) ho r1 (by decide) v1
    rw [leaksV_snoc, List.length_append]
    exact this
theorem RW.cells (h : RW w0 w C regs mm leaks vl steps) : w.cell? ⟨C.kc, 0, none⟩ = some (.slice C.ia C.c.length C.ic) ∧ w.cell? ⟨C.kc, 1, none⟩ = some (.int .i64 24) ∧ w.cell? ⟨C.kc, 2, none⟩ = some (.int .i64 C.mem) ∧
    w.cell? ⟨C.kr, 0, none⟩ = some (.int .i64 0) ∧ w.cell? ⟨C.kr, 1, none⟩ = some (.slice (some ⟨C.gm, 0, none⟩) C.mem C.mcap) ∧ w.cell? ⟨C.kr, 2, none⟩ = some vl ∧ w.cell? ⟨C.kr, 3, none⟩ = some (.int .i64 steps) ∧ w.cell? ⟨C.kr, 4, none⟩ = some (.int .i64 (-1)) :=
  ⟨(cell_blk h.cb _).trans rfl, (cell_blk h.cb _).trans rfl, (cell_blk h.cb _).trans rfl, (cell_blk h.rb _).trans rfl, (cell_blk h.rb _).trans rfl, (cell_blk h.rb _).trans rfl, (cell_blk h.rb _).trans rfl, (cell_blk h.rb _).trans rfl⟩
theorem RW.froz (h : RW w0 w C regs mm leaks vl steps) (j : Nat) : w.frozen? ⟨C.kr, j, none⟩ = false := frozen_blk h.rb _
theorem RW.rlen (h : RW w0 w C regs mm leaks vl steps) : regs.length = 25 := by have := own_one h.ro; simpa [wordsV] using this
theorem RW.mlen (h : RW w0 w C regs mm leaks vl steps) : mm.length = C.mem := by have := own_one h.mo; simpa [wordsV] using this
theorem RW.regAt (h : RW w0 w C regs mm leaks vl steps) {j : Nat} (hj : j < 25) : w.cell? ⟨C.gr, j, none⟩ = some (.int .u64 (regs.getD j 0)) ∧ w.frozen? ⟨C.gr, j, none⟩ = false := by
  have hl := h.rlen
  obtain ⟨g, e, h1, h2⟩ := words_get (M := regs) h.ro (j := j) (by omega) hl.symm
  cases e
  refine ⟨?_, h2⟩
  rw [h1]; simp [List.getD_eq_getElem?_getD, show j < regs.length by omega]
theorem RW.memAt (h : RW w0 w C regs mm leaks vl steps) {j : Nat} (hj : j < C.mem) : w.cell? ⟨C.gm, j, none⟩ = some (.int .u64 (mm.getD j 0)) ∧ w.frozen? ⟨C.gm, j, none⟩ = false := by
  have hl := h.mlen
  obtain ⟨g, e, h1, h2⟩ := words_get (M := mm) h.mo (j := j) (by omega) hl.symm
  cases e
  refine ⟨?_, h2⟩
  rw [h1]; simp [List.getD_eq_getElem?_getD, show j < mm.length by omega]
end
end Go.Proofs.YtkplfaionpplaaaGreatDoor
namespace Go.Proofs.YtkplfaionpplaaaGreatDoor.Al
section
variable {c : List Inst} {M : Int} {k pc : Nat} {regs mem : List Int} {leaks : List Leak} {steps : Int} {R : RRes}
theorem rrun_inside (h : rrun c [] M k pc regs mem leaks steps = R) (hc : R.code ≤ 2) : pc < c.length := by
  rcases Nat.lt_or_ge pc c.length with hl | hl
  · exact hl
  · unfold rrun at h
    rw [if_pos (by omega)] at h
    rw [← h] at hc
    simp at hc
theorem run_k (h : rrun c [] M k pc regs mem leaks steps = R) (hc : R.code ≤ 2) : ∃ k', k = k' + 1 := by
  have hl := rrun_inside h hc
  cases k with
  | succ k => exact ⟨k, rfl⟩
  | zero =>
    unfold rrun at h
    rw [if_neg (by omega)] at h
    rw [← h] at hc
    simp at hc
theorem run_step (h : rrun c [] M (k + 1) pc regs mem leaks steps = R) (hl : pc < c.length) (i : Inst) (hi : i = c[pc]) :
    (if i.op = 15 ∨ i.op = 16 then
        if wrapU (gI regs i.a + wrapU i.k) ≥ M then ⟨3, mem, leaks ++ [⟨1, pc⟩] ++ [⟨3, sgn (wrapU (gI regs i.a + wrapU i.k))⟩], steps + 1, -1⟩ else
        if i.op = 15 then rrun c [] M k ((pc : Int) + 1) (setI regs i.d (gI mem (wrapU (gI regs i.a + wrapU i.k)))) mem (leaks ++ [⟨1, pc⟩] ++ [⟨3, sgn (wrapU (gI regs i.a + wrapU i.k))⟩]) (steps + 1)
        else rrun c [] M k ((pc : Int) + 1) regs (setI mem (wrapU (gI regs i.a + wrapU i.k)) (gI regs i.b)) (leaks ++ [⟨1, pc⟩] ++ [⟨3, sgn (wrapU (gI regs i.a + wrapU i.k))⟩]) (steps + 1)
      else if i.op = 17 then rrun c [] M k i.k regs mem (leaks ++ [⟨1, pc⟩]) (steps + 1)
      else if i.op = 18 ∨ i.op = 19 then rrun c [] M k (if decide (decide (gI regs i.a = 0) = decide (i.op = 18)) = true then i.k else (pc : Int) + 1) regs mem (leaks ++ [⟨1, pc⟩] ++ [⟨2, if decide (decide (gI regs i.a = 0) = decide (i.op = 18)) = true then 1 else 0⟩]) (steps + 1)
      else if i.op = 20 then ⟨i.k, mem, leaks ++ [⟨1, pc⟩], steps + 1, -1⟩
      else rrun c [] M k ((pc : Int) + 1) (setI regs i.d (wvalue i (gI regs i.a) (gI regs i.b) (gI regs i.c))) mem (leaks ++ [⟨1, pc⟩]) (steps + 1)) = R := by
  unfold rrun at h
  rw [if_neg (by omega)] at h
  have e : c.getD (pc : Int).toNat default = i := by simp [List.getD_eq_getElem?_getD, hl, hi]
  simp only [e] at h
  simpa using h
theorem run_ls (h : rrun c [] M (k + 1) pc regs mem leaks steps = R) (hc : R.code ≤ 2) (hl : pc < c.length) {i : Inst} (hi : i = c[pc]) (ho : i.op = 15 ∨ i.op = 16) (hM : M ≤ 65536) :
    ∃ at_ : Nat, wrapU (gI regs i.a + wrapU i.k) = at_ ∧ (at_ : Int) < M ∧
      (i.op = 15 → rrun c [] M k (pc + 1 : Nat) (setI regs i.d (gI mem at_)) mem (leaks ++ [⟨1, pc⟩] ++ [⟨3, at_⟩]) (steps + 1) = R) ∧
      (i.op = 16 → rrun c [] M k (pc + 1 : Nat) regs (setI mem at_ (gI regs i.b)) (leaks ++ [⟨1, pc⟩] ++ [⟨3, at_⟩]) (steps + 1) = R) := by
  have h := run_step h hl i hi
  rw [if_pos ho] at h
  by_cases hm : wrapU (gI regs i.a + wrapU i.k) ≥ M
  · rw [if_pos hm] at h; rw [← h] at hc; simp at hc
  rw [if_neg hm] at h
  have h0 : 0 ≤ wrapU (gI regs i.a + wrapU i.k) := by unfold wrapU; omega
  obtain ⟨at_, ha⟩ := Int.eq_ofNat_of_zero_le h0
  rw [ha] at h hm
  have hs : sgn (at_ : Int) = at_ := sgn_at (by omega)
  rw [hs] at h
  refine ⟨at_, ha, by omega, fun ho => ?_, fun ho => ?_⟩
  · rw [if_pos ho] at h; exact h
  · rw [if_neg (by omega)] at h; exact h
theorem run_br (h : rrun c [] M (k + 1) pc regs mem leaks steps = R) (hl : pc < c.length) {i : Inst} (hi : i = c[pc]) (ho : i.op = 17) :
    rrun c [] M k i.k regs mem (leaks ++ [⟨1, pc⟩]) (steps + 1) = R := by
  have h := run_step h hl i hi
  rw [if_neg (by omega), if_pos ho] at h
  exact h
theorem run_bz (h : rrun c [] M (k + 1) pc regs mem leaks steps = R) (hl : pc < c.length) {i : Inst} (hi : i = c[pc]) (ho : i.op = 18 ∨ i.op = 19) {goes : Bool} (hg : goes = decide (decide (gI regs i.a = 0) = decide (i.op = 18))) :
    rrun c [] M k (if goes = true then i.k else ((pc + 1 : Nat) : Int)) regs mem (leaks ++ [⟨1, pc⟩] ++ [⟨2, if goes = true then 1 else 0⟩]) (steps + 1) = R := by
  have h := run_step h hl i hi
  rw [if_neg (by omega), if_neg (by omega), if_pos ho, ← hg] at h
  exact h
theorem run_halt (h : rrun c [] M (k + 1) pc regs mem leaks steps = R) (hl : pc < c.length) {i : Inst} (hi : i = c[pc]) (ho : i.op = 20) :
    R = ⟨i.k, mem, leaks ++ [⟨1, pc⟩], steps + 1, -1⟩ := by
  have h := run_step h hl i hi
  rw [if_neg (by omega), if_neg (by omega), if_neg (by omega), if_pos ho] at h
  exact h.symm
theorem run_val (h : rrun c [] M (k + 1) pc regs mem leaks steps = R) (hl : pc < c.length) {i : Inst} (hi : i = c[pc]) (ho : 1 ≤ i.op ∧ i.op ≤ 14) :
    rrun c [] M k (pc + 1 : Nat) (setI regs i.d (wvalue i (gI regs i.a) (gI regs i.b) (gI regs i.c))) mem (leaks ++ [⟨1, pc⟩]) (steps + 1) = R := by
  have h := run_step h hl i hi
  rw [if_neg (by omega), if_neg (by omega), if_neg (by omega), if_neg (by omega)] at h
  exact h
/-- what an instruction makes is a word -/
theorem wvalue_word {i : Inst} {a b c : Int} (ha : 0 ≤ a ∧ a < 18446744073709551616) (hb : 0 ≤ b ∧ b < 18446744073709551616) (hc : 0 ≤ c ∧ c < 18446744073709551616) : 0 ≤ wvalue i a b c ∧ wvalue i a b c < 18446744073709551616 := by
  have hw : ∀ n, 0 ≤ wrapU n ∧ wrapU n < 18446744073709551616 := fun n => by unfold wrapU; omega
  have hx : ∀ n : Nat, n < 2 ^ 64 → 0 ≤ (n : Int) ∧ (n : Int) < 18446744073709551616 := fun n h => by omega
  unfold wvalue
  by_cases h1 : i.op = 1
  · rw [if_pos h1]; exact hw _
  rw [if_neg h1]
  by_cases h2 : i.op = 2
  · rw [if_pos h2]; exact ha
  rw [if_neg h2]
  by_cases h3 : i.op = 3
  · rw [if_pos h3]; exact hw _
  rw [if_neg h3]
  by_cases h4 : i.op = 4
  · rw [if_pos h4]; exact hw _
  rw [if_neg h4]
  by_cases h5 : i.op = 5
  · rw [if_pos h5]; exact hw _
  rw [if_neg h5]
  by_cases h6 : i.op = 6
  · rw [if_pos h6]
    have p : 0 ≤ a * b := Int.mul_nonneg ha.1 hb.1
    have p2 : a * b ≤ 18446744073709551615 * 18446744073709551615 := Int.mul_le_mul (by omega) (by omega) hb.1 (by omega)
    refine ⟨Int.ediv_nonneg p (by omega), ?_⟩
    have := Int.ediv_le_ediv (show (0 : Int) < 18446744073709551616 by omega) p2
    omega
  rw [if_neg h6]
  by_cases h7 : i.op = 7
  · rw [if_pos h7]; exact hx _ (Nat.and_lt_two_pow _ (by omega))
  rw [if_neg h7]
  by_cases h8 : i.op = 8
  · rw [if_pos h8]; exact hx _ (Nat.or_lt_two_pow (by omega) (by omega))
  rw [if_neg h8]
  by_cases h9 : i.op = 9
  · rw [if_pos h9]; exact hx _ (Nat.xor_lt_two_pow (by omega) (by omega))
  rw [if_neg h9]
  by_cases h13 : i.op = 13
  · rw [if_pos h13]; split <;> omega
  rw [if_neg h13]
  by_cases h14 : i.op = 14
  · rw [if_pos h14]; split <;> assumption
  rw [if_neg h14]
  split
  · by_cases h10 : i.op = 10
    · rw [if_pos h10]; exact hw _
    rw [if_neg h10]
    by_cases h11 : i.op = 11
    · rw [if_pos h11]
      have hp : (0 : Int) < 2 ^ i.k.toNat := Int.pow_pos (by omega)
      exact ⟨Int.ediv_nonneg ha.1 (by omega), by have := Int.ediv_le_self (2 ^ i.k.toNat) ha.1; omega⟩
    rw [if_neg h11]
    split
    · exact hw _
    · omega
  · omega
theorem gI_word {l : List Int} (h : ∀ x ∈ l, 0 ≤ x ∧ x < 18446744073709551616) (i : Int) : 0 ≤ gI l i ∧ gI l i < 18446744073709551616 := by
  unfold gI
  rw [List.getD_eq_getElem?_getD]
  cases hx : l[i.toNat]? with
  | none => simp
  | some x => exact h x (List.mem_of_getElem? hx)
theorem setI_word {l : List Int} (h : ∀ x ∈ l, 0 ≤ x ∧ x < 18446744073709551616) {i v : Int} (hv : 0 ≤ v ∧ v < 18446744073709551616) : ∀ x ∈ setI l i v, 0 ≤ x ∧ x < 18446744073709551616 := fun x hx => by
  rcases List.mem_or_eq_of_mem_set hx with hx | rfl
  · exact h x hx
  · exact hv
end
end Go.Proofs.YtkplfaionpplaaaGreatDoor.Al
