/- Part 27: P33, P34. -/
import Derived.Test.YtkplfaionpplaaaGreatDoorK26
set_option linter.unusedVariables false
set_option linter.unusedSimpArgs false
namespace Go.Proofs.YtkplfaionpplaaaGreatDoor.Al
theorem codes_ok {p : Prog} (hF : Fine p) {len : Nat} (hlen : len = bodyP p.body + (genL (envOf p (bitsOf p.q)) 0 0 0 (bodyP p.body) p.body).length) :
    (∀ i ∈ insts (progC (envOf p (bitsOf p.q)) p.body (outT len) (outG len p.body)), okI (progC (envOf p (bitsOf p.q)) p.body (outT len) (outG len p.body)).length i) ∧
      (progC (envOf p (bitsOf p.q)) p.body (outT len) (outG len p.body)).length ≤ len + 3 := by
  have hE := env_ok hF
  have hg := good_prog hF (bitsOf p.q)
  generalize hEE : envOf p (bitsOf p.q) = E at *
  have hlen2 : len = bodyP p.body + (genL E (outT len) (outG len p.body) 0 (bodyP p.body) p.body).length := by rw [hlen]; congr 1; exact len_list E _ _ _ _ _ _ _
  have hln0 : ∀ T G, (progC E p.body T G).length = (bodyP p.body + (genL E T G 0 (bodyP p.body) p.body).length) + 1 + (if drawsL p.body then 1 else 0) + (if untilsL p.body then 1 else 0) := by
    intro T G
    unfold progC endC
    rw [List.length_append, List.length_append]
    have e1 : (if p.body.isEmpty = true then [] else beginC E).length = bodyP p.body := by unfold bodyP; split <;> simp [beginC]
    rw [e1]
    cases drawsL p.body <;> cases untilsL p.body <;> simp <;> omega
  have hln := hln0 (outT len) (outG len p.body)
  rw [← hlen2] at hln
  have hok : okC (progC E p.body (outT len) (outG len p.body)).length (progC E p.body (outT len) (outG len p.body)) := by
    refine ok_prog hE hg ?_ ?_
    · rw [hln]; unfold outT; omega
    · rw [hln]; unfold outG; omega
  refine ⟨fun i hi => ?_, ?_⟩
  · unfold insts at hi
    obtain ⟨x, hx, rfl⟩ := List.mem_map.1 hi
    exact hok x hx
  · rw [hln]
    cases drawsL p.body <;> cases untilsL p.body <;> simp
def isWord (x : Int) : Prop := 0 ≤ x ∧ x < 18446744073709551616
theorem setRow_words : ∀ (l m : List Int) (a : Nat), (∀ x ∈ m, isWord x) → (∀ x ∈ l, isWord x) → ∀ x ∈ setRow m a l, isWord x
  | [], m, a, hm, _ => hm
  | y :: l, m, a, hm, hl => by
    unfold setRow
    refine setRow_words l _ _ (fun x hx => ?_) (fun x hx => hl x (List.mem_cons_of_mem _ hx))
    rcases List.mem_or_eq_of_mem_set hx with hx | rfl
    · exact hm x hx
    · exact hl _ List.mem_cons_self
theorem setRows_words (p : Prog) : ∀ (ks : List Int) (ins : List (List Int)) (m : List Int), (∀ x ∈ m, isWord x) → (∀ a ∈ ins, ∀ x ∈ a, isWord x) → ∀ x ∈ setRows p m ks ins, isWord x
  | [], ins, m, hm, _ => by unfold setRows; exact hm
  | k :: ks, [], m, hm, _ => by unfold setRows; exact hm
  | k :: ks, a :: ins, m, hm, hi => by
    unfold setRows
    exact setRows_words p ks ins _ (setRow_words a m _ hm (hi a List.mem_cons_self)) (fun b hb => hi b (List.mem_cons_of_mem _ hb))
theorem memF_words {p : Prog} {ins : List (List Int)} {tape : List Int} {mem : Int} (hF : Fine p) (hi : InOk p ins tape) (ht : ∀ x ∈ tape, 0 ≤ x ∧ x < 4294967296) : ∀ x ∈ memF p mem ins tape, 0 ≤ x ∧ x < 18446744073709551616 := by
  have hq := hF.q
  have htl := hi.tape
  refine setRow_words tape _ _ (setRows_words p _ _ _ ?_ ?_) ?_
  · intro x hx
    rcases List.mem_or_eq_of_mem_set hx with hx | rfl
    · rw [(List.mem_replicate.1 hx).2]; unfold isWord; omega
    · unfold isWord; omega
  · intro a ha x hx
    have := (hi.vec a ha).2 x hx
    unfold isWord; omega
  · intro x hx
    have := ht x hx
    unfold isWord; omega
end Go.Proofs.YtkplfaionpplaaaGreatDoor.Al
namespace Go.Proofs.YtkplfaionpplaaaGreatDoor.Al
theorem rrun_leaks (c : List Inst) (sp : List Span) (memN : Int) : ∀ (k : Nat) (pc : Int) (regs mem : List Int) (leaks : List Leak) (steps : Int), (rrun c sp memN k pc regs mem leaks steps).leaks.length ≤ leaks.length + 2 * k := by
  intro k
  induction k with
  | zero => intro pc regs mem leaks steps; unfold rrun; split <;> simp
  | succ k ih =>
    intro pc regs mem leaks steps
    unfold rrun
    split
    · simp
    · dsimp only
      repeat' split
      all_goals first
        | (simp; done)
        | (simp; omega)
        | (refine Nat.le_trans (ih _ _ _ _ _) ?_; simp; omega)
theorem plain_of {q : Int} {vars : List Var} {s : Stmt} (h : oneF q vars s = 0) (h2 : s.op < 12 ∨ s.op = 15) : plainOp s := by
  obtain ⟨g, hg, -, hn, -⟩ := oneF_parts h
  rcases h2 with h2 | h2
  · refine .inl ⟨?_, h2⟩
    by_cases h1 : 1 ≤ s.op
    · exact h1
    · exfalso
      have e : hasOf s.op = none := by
        unfold hasOf
        rw [if_neg (by omega), if_neg (by omega), if_neg (by omega), if_neg (by omega), if_neg (by omega), if_neg (by omega), if_neg (by omega), if_neg (by omega)]
      rw [e] at hg
      cases hg
  · refine .inr ⟨h2, ?_⟩
    unfold numOk at hn
    rw [if_neg (by omega), if_neg (by omega), if_neg (by omega), if_pos (by omega)] at hn
    simpa using hn
theorem plain_run {p : Prog} (hF : Fine p) (hn : p.n ≤ 16) (hops : ∀ s ∈ flatL p.body, s.op < 12 ∨ s.op = 15) (hw : workF 13 p.body ≤ 400) {c : List CI} {len : Nat} (hlen : len = bodyP p.body + (genL (envOf p (bitsOf p.q)) 0 0 0 (bodyP p.body) p.body).length)
    (hc : c = progC (envOf p (bitsOf p.q)) p.body (outT len) (outG len p.body)) :
    ∃ (fuel : Nat) (L : List Leak), (1000 + 1) * (16 * p.n * p.n + 16384) = (fuel : Int) ∧ fuel ≤ 2147483648 ∧ ∀ ins, InOk p ins [] → L.length < 1000000000000 ∧ ∃ mem' t, rrun (insts c) [] (envOf p (bitsOf p.q)).mem fuel 0 (List.replicate 25 0) (memF p (envOf p (bitsOf p.q)).mem ins []) [] 0 = ⟨0, mem', L, t, -1⟩ := by
  obtain ⟨L, h⟩ := plain_law hF (fun s hs => plain_of (hF.one s hs) (hops s hs)) hw hlen hc (Nat.le_refl _)
  have h4 := hF.n.1
  have e1 : (1000 + 1) * (16 * p.n * p.n + 16384) = ((1001 * Wd (envOf p (bitsOf p.q)) : Nat) : Int) := by
    have e2 : (envOf p (bitsOf p.q)).n = p.n.toNat := rfl
    have e3 : ((p.n.toNat : Nat) : Int) = p.n := by omega
    unfold Wd
    rw [e2]
    rw [Int.natCast_mul, Int.natCast_add, Int.natCast_mul, Int.natCast_mul, e3]
    rfl
  have e4 : 1001 * Wd (envOf p (bitsOf p.q)) ≤ 20500480 := by
    have e2 : (envOf p (bitsOf p.q)).n = p.n.toNat := rfl
    have h5 : p.n.toNat ≤ 16 := by omega
    have h6 : p.n.toNat * p.n.toNat ≤ 16 * 16 := Nat.mul_le_mul h5 h5
    unfold Wd
    rw [e2, Nat.mul_assoc]
    omega
  refine ⟨_, L, e1, by omega, fun ins hi => ?_⟩
  obtain ⟨mem', t, hr⟩ := h ins hi
  refine ⟨?_, mem', t, hr⟩
  have := rrun_leaks (insts c) [] (envOf p (bitsOf p.q)).mem (1001 * Wd (envOf p (bitsOf p.q))) 0 (List.replicate 25 0) (memF p (envOf p (bitsOf p.q)).mem ins []) [] 0
  rw [hr] at this
  simp at this
  omega
end Go.Proofs.YtkplfaionpplaaaGreatDoor.Al
