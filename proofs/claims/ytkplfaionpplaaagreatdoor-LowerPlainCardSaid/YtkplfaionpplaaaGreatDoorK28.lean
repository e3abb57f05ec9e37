/- Part 28: B67. -/
import Derived.Test.YtkplfaionpplaaaGreatDoorK27
set_option linter.unusedVariables false
set_option linter.unusedSimpArgs false
namespace Go.Proofs.YtkplfaionpplaaaGreatDoor
open Go.RowKit Go.Proofs.YtkplfaionpplaaaGreatDoorW.PrintWords
theorem light_parts {p : Al.Prog} {ni : Nat} (h : (lightF p && (decide (ni ≤ 14) && decide ((0 : Nat) ≤ 200))) = true) : p.n ≤ 16 ∧ p.vars.length ≤ 20 ∧ (Al.flatL p.body).length ≤ 30 ∧ Al.workF 13 p.body ≤ 400 ∧ ni ≤ 14 := by
  unfold lightF at h
  simp only [Bool.and_eq_true, decide_eq_true_eq] at h
  exact ⟨h.1.1, h.1.2.1, flatOk_len h.1.2.2.1, h.1.2.2.2, h.2.1⟩
theorem mem_plain {w : World} {p : Al.Prog} {Va Ab Ia : Option Addr} {vc cb ic M : Nat} {ins : List (List Int)} (hp : PLies w p Va Ab vc cb) (hF : Al.Fine p) (hio : Al.InOk p ins [])
    (hi : Kd.C (Kd.slice 3 (Kd.int .i64)) w Ia ins.length ins) (hM : M = (envP p).mem) :
    Calls Tryz.prog 11 #[.agg #[.int .i64 p.q, .int .i64 p.n, .slice Va p.vars.length vc, .slice Ab p.body.length cb], .int .i64 M, .slice Ia ins.length ic, .slice none 0 0] w fun e w' => ∃ ma mc, e = .returned (.slice ma M mc) ∧ w'.ownsRow w.heap.size 56 1 (.slice ma M mc) M (wordsV (Al.memF p M ins [])) ∧ Below w.heap.size w w' := by
  have hE := Al.env_ok hF
  have hmem := Al.endF_eq (bits := Al.bitsOf p.q) hF
  have h1 : Al.endF p + 4096 ≤ (M : Int) := by rw [hM, hmem]; show _ ≤ (((Al.envOf p (Al.bitsOf p.q)).mem : Nat) : Int); unfold Al.Env.mem Al.Env.scratch; omega
  have h2 : M ≤ 65536 := by rw [hM]; exact hE.mem_le
  refine (ref_memory hp hF hio hi (Ta := none) (tc := 0) (Kd.C_nil _ _) (by simp) h1 h2).mono ?_
  rintro e w' ⟨v, rfl, ho, hb⟩
  obtain ⟨ma, mc, rfl⟩ := own_slice ho
  exact ⟨ma, mc, rfl, ho, hb⟩
theorem run_plain {w : World} {p : Al.Prog} {CI : List Al.Inst} {M fuel b1 b2 ic mc : Nat} {ia ma : Option Addr} {ins : List (List Int)} {mem' : List Int} {L : List Al.Leak} {t : Int} (hF : Al.Fine p) (hio : Al.InOk p ins []) (hCI : CI = Al.insts (codeP p)) (hM : M = (envP p).mem) (hf : fuel ≤ 2147483648)
    (hr : Al.rrun CI [] M fuel 0 (List.replicate 25 0) (Al.memF p M ins []) [] 0 = ⟨0, mem', L, t, -1⟩) (h1 : w.ownsRow b1 97 6 (.slice ia CI.length ic) CI.length (instsV CI)) (h2 : w.ownsRow b2 56 1 (.slice ma M mc) M (wordsV (Al.memF p M ins []))) :
    Calls Tryz.prog 12 #[.agg #[.slice ia CI.length ic, .int .i64 24, .int .i64 M], .slice none 0 0, .slice ma M mc, .int .i64 fuel] w fun e w' => ∃ xa xn xc la lc, e = .returned (.agg #[.int .i64 0, .slice xa xn xc, .slice la L.length lc, .int .i64 t, .int .i64 (-1)]) ∧ w'.ownsRow w.heap.size 103 2 (.slice la L.length lc) L.length (leaksV L) ∧ Below w.heap.size w w' := by
  have hE := Al.env_ok hF
  obtain ⟨k1, k2⟩ := Al.codes_ok hF (len := lenP p) rfl
  have hl : lenP p ≤ 6004 := by
    have h1 := Al.genL_le (envP p) 0 0 p.body 0 (Al.bodyP p.body)
    have h2 := hF.flat
    have h3 : Al.bodyP p.body ≤ 4 := by unfold Al.bodyP; split <;> omega
    unfold lenP; omega
  have hcl : CI.length = (codeP p).length := by rw [hCI, Al.insts_length]
  have HC : RunC w ⟨0, 0, 0, 0, 0, M, 0, ia, ic, CI⟩ ⟨0, mem', L, t, -1⟩ fuel b1 := by
    refine ⟨h1, fun i hi => ?_, ?_, ?_, ?_, hf, rfl, ⟨Int.le_refl 0, show (0 : Int) ≤ 2 by decide⟩⟩
    · show Al.okI CI.length i
      rw [hcl]; exact k1 i (show i ∈ Al.insts (codeP p) by rw [← hCI]; exact hi)
    · show CI.length ≤ _
      rw [hcl]
      have : (codeP p).length ≤ lenP p + 3 := k2
      omega
    · show 0 < M
      rw [hM]; show 0 < (Al.envOf p (Al.bitsOf p.q)).mem; unfold Al.Env.mem Al.Env.scratch; omega
    · show M ≤ 65536
      rw [hM]; exact hE.mem_le
  refine (run_start HC h2 (Al.memF_words hF hio (by simp)) hr).mono ?_
  rintro e w' ⟨vm, vl, rfl, ho, hl2, hb⟩
  obtain ⟨xa, xc, rfl⟩ := own_slice ho
  obtain ⟨la, lc, rfl⟩ := own_slice hl2
  exact ⟨xa, _, xc, la, lc, rfl, hl2, hb⟩
def resZ : Array Value := #[.int .i64 0, .slice none 0 0, .slice none 0 0, .int .i64 0, .int .i64 0]
/-- what LowerPlain's two runs keep -/
structure PS (w0 : World) (kp kc b1 : Nat) (kz : Option Nat) (p : Al.Prog) (Va Ab : Option Addr) (vc cb : Nat) (ia : Option Addr) (ic : Nat) (CI : List Al.Inst) (M : Nat) (w : World) : Prop where
  P : PBox w kp p Va Ab vc cb
  C : w.heap[kc]? = some (.cells #[.slice ia CI.length ic, .int .i64 24, .int .i64 M] 41 (0, 0))
  O : w.ownsRow b1 97 6 (.slice ia CI.length ic) CI.length (instsV CI)
  b : Below w0.heap.size w0 w
  z : ∀ k, kz = some k → w0.heap.size ≤ k ∧ w.heap[k]? = some (.cells resZ 51 (0, 0))
section
variable {w0 w w' : World} {kp kc b1 : Nat} {kz : Option Nat} {p : Al.Prog} {Va Ab : Option Addr} {vc cb : Nat} {ia : Option Addr} {ic : Nat} {CI : List Al.Inst} {M : Nat}
theorem PS.drew (h : PS w0 kp kc b1 kz p Va Ab vc cb ia ic CI M w) : PS w0 kp kc b1 kz p Va Ab vc cb ia ic CI M w.drew := ⟨h.P, h.C, own_of h.O fun _ _ => rfl, below_drew' h.b, h.z⟩
theorem PS.below (h : PS w0 kp kc b1 kz p Va Ab vc cb ia ic CI M w) (g : Below w.heap.size w w') : PS w0 kp kc b1 kz p Va Ab vc cb ia ic CI M w' :=
  ⟨below_blk g h.P (blk_lt h.P), below_blk g h.C (blk_lt h.C), own_of h.O fun k hk => g.block k (h.O.lt k hk).2, h.b.trans (lower_below g h.b.size), fun k hk => ⟨(h.z k hk).1, below_blk g (h.z k hk).2 (blk_lt (h.z k hk).2)⟩⟩
theorem PS.alloc (h : PS w0 kp kc b1 none p Va Ab vc cb ia ic CI M w) : PS w0 kp kc b1 (some w.heap.size) p Va Ab vc cb ia ic CI M (w.alloc (.cells #[.int .i64 0, .slice none 0 0, .slice none 0 0, .int .i64 0, .int .i64 0] 51)) :=
  ⟨alloc_blk _ h.P, alloc_blk _ h.C, h.O.alloc _, h.b.alloc h.b.size _, fun k hk => by cases hk; exact ⟨h.b.size, heap_alloc_new w _⟩⟩
theorem PS.cells (h : PS w0 kp kc b1 kz p Va Ab vc cb ia ic CI M w) : w.cell? ⟨kp, 0, none⟩ = some (.int .i64 p.q) ∧ w.cell? ⟨kp, 1, none⟩ = some (.int .i64 p.n) ∧ w.cell? ⟨kp, 2, none⟩ = some (.slice Va p.vars.length vc) ∧ w.cell? ⟨kp, 3, none⟩ = some (.slice Ab p.body.length cb) ∧ w.cell? ⟨kc, 0, none⟩ = some (.slice ia CI.length ic) ∧ w.cell? ⟨kc, 1, none⟩ = some (.int .i64 24) ∧ w.cell? ⟨kc, 2, none⟩ = some (.int .i64 M) :=
  ⟨h.P.cells.1, h.P.cells.2.1, h.P.cells.2.2.1, h.P.cells.2.2.2, (cell_blk h.C _).trans rfl, (cell_blk h.C _).trans rfl, (cell_blk h.C _).trans rfl⟩
theorem PS.new (h : PS w0 kp kc b1 kz p Va Ab vc cb ia ic CI M w) (o : Obj) : (w.alloc o).cell? ⟨kp, 0, none⟩ = some (.int .i64 p.q) ∧ (w.alloc o).cell? ⟨kp, 1, none⟩ = some (.int .i64 p.n) ∧ (w.alloc o).cell? ⟨kp, 2, none⟩ = some (.slice Va p.vars.length vc) ∧ (w.alloc o).cell? ⟨kp, 3, none⟩ = some (.slice Ab p.body.length cb) ∧ (w.alloc o).cell? ⟨kc, 0, none⟩ = some (.slice ia CI.length ic) ∧ (w.alloc o).cell? ⟨kc, 1, none⟩ = some (.int .i64 24) ∧ (w.alloc o).cell? ⟨kc, 2, none⟩ = some (.int .i64 M) :=
  have P := PBox.cells (show PBox (w.alloc o) kp p Va Ab vc cb from alloc_blk o h.P)
  have C := alloc_blk o h.C
  ⟨P.1, P.2.1, P.2.2.1, P.2.2.2, (cell_blk C _).trans rfl, (cell_blk C _).trans rfl, (cell_blk C _).trans rfl⟩
theorem PS.zero {k : Nat} (h : PS w0 kp kc b1 (some k) p Va Ab vc cb ia ic CI M w) : w.cell? ⟨k, 0, none⟩ = some (.int .i64 0) ∧ w.cell? ⟨k, 1, none⟩ = some (.slice none 0 0) ∧ w.cell? ⟨k, 2, none⟩ = some (.slice none 0 0) ∧ w.cell? ⟨k, 3, none⟩ = some (.int .i64 0) ∧ w.cell? ⟨k, 4, none⟩ = some (.int .i64 0) ∧
    w.frozen? ⟨k, 0, none⟩ = false ∧ w.frozen? ⟨k, 1, none⟩ = false ∧ w.frozen? ⟨k, 2, none⟩ = false ∧ w.frozen? ⟨k, 3, none⟩ = false ∧ w.frozen? ⟨k, 4, none⟩ = false :=
  ⟨(cell_blk (h.z k rfl).2 _).trans rfl, (cell_blk (h.z k rfl).2 _).trans rfl, (cell_blk (h.z k rfl).2 _).trans rfl, (cell_blk (h.z k rfl).2 _).trans rfl, (cell_blk (h.z k rfl).2 _).trans rfl, frozen_blk (h.z k rfl).2 _, frozen_blk (h.z k rfl).2 _, frozen_blk (h.z k rfl).2 _, frozen_blk (h.z k rfl).2 _, frozen_blk (h.z k rfl).2 _⟩
theorem PS.newP (h : PS w0 kp kc b1 none p Va Ab vc cb ia ic CI M w) (o : Obj) : PS w0 kp kc b1 none p Va Ab vc cb ia ic CI M (w.alloc o) :=
  ⟨alloc_blk _ h.P, alloc_blk _ h.C, h.O.alloc _, h.b.alloc h.b.size _, fun k hk => by cases hk⟩
theorem ne_types {w : World} {i k : Nat} {c d : Array Value} {t u : TypeId} {f g : Nat × Nat} (h1 : w.heap[i]? = some (.cells c t f)) (h2 : w.heap[k]? = some (.cells d u g)) (ht : t ≠ u) : i ≠ k := fun e => by
  rw [e, h2] at h1
  cases h1
  exact ht rfl
theorem PS.set5 {k : Nat} (h : PS w0 kp kc b1 (some k) p Va Ab vc cb ia ic CI M w) (x0 x1 x2 x3 x4 : Value) : PS w0 kp kc b1 none p Va Ab vc cb ia ic CI M (((((w.setCell ⟨k, 0, none⟩ x0).setCell ⟨k, 1, none⟩ x1).setCell ⟨k, 2, none⟩ x2).setCell ⟨k, 3, none⟩ x3).setCell ⟨k, 4, none⟩ x4) := by
  have hz := (h.z k rfl).2
  have n1 : kp ≠ k := ne_types (show w.heap[kp]? = _ from h.P) hz (by decide)
  have n2 : kc ≠ k := ne_types h.C hz (by decide)
  refine ⟨?_, ?_, own_set5 h.O hz (by decide), below_set5 h.b (h.z k rfl).1, fun k hk => by cases hk⟩
  · show _ = _
    rw [set_blk_ne _ _ n1, set_blk_ne _ _ n1, set_blk_ne _ _ n1, set_blk_ne _ _ n1, set_blk_ne _ _ n1]; exact h.P
  · rw [set_blk_ne _ _ n2, set_blk_ne _ _ n2, set_blk_ne _ _ n2, set_blk_ne _ _ n2, set_blk_ne _ _ n2]; exact h.C
end
set_option maxRecDepth 100000 in
set_option maxHeartbeats 6400000 in
theorem plain_any {w : World} {p : Al.Prog} {Va Ab Ia Ib : Option Addr} {vc cb ic jc : Nat} {insA insB : List (List Int)} (hp : PLies w p Va Ab vc cb) (hA : Kd.C (Kd.slice 3 (Kd.int .i64)) w Ia insA.length insA) (hB : Kd.C (Kd.slice 3 (Kd.int .i64)) w Ib insB.length insB) :
    Calls Tryz.prog 5 #[progV p Va Ab vc cb, .slice Ia insA.length ic, .slice Ib insB.length jc] w fun e w' => e = .returned (.bool true) ∧ Below w.heap.size w w' := by
  obtain ⟨W, hW⟩ : ∃ W, W = w.alloc (.cells #[.int .i64 p.q, .int .i64 p.n, .slice Va p.vars.length vc, .slice Ab p.body.length cb] 27) := ⟨_, rfl⟩
  have hb0 : Below w.heap.size w W := by rw [hW]; exact (Below.refl _ _).alloc (Nat.le_refl _) _
  obtain ⟨kp, hkp⟩ : ∃ kp, kp = w.heap.size := ⟨_, rfl⟩
  have P0 : PBox W kp p Va Ab vc cb := by rw [hW, hkp]; exact heap_alloc_new w _
  have HLA := fun (w0 : World) (hb : Below w.heap.size w w0) => light_any (hp.below hb) Ia none insA.length ic 0 0
  have HLB := fun (w0 : World) (hb : Below w.heap.size w w0) => light_any (hp.below hb) Ib none insB.length jc 0 0
  have HF1 := first_any W
  unfold progV at HLA HLB
  obtain ⟨lA, hlA⟩ : ∃ lA, lA = (lightF p && (decide (insA.length ≤ 14) && decide ((0 : Nat) ≤ 200))) := ⟨_, rfl⟩
  obtain ⟨lB, hlB⟩ : ∃ lB, lB = (lightF p && (decide (insB.length ≤ 14) && decide ((0 : Nat) ≤ 200))) := ⟨_, rfl⟩
  simp only [← hlA] at HLA
  simp only [← hlB] at HLB
  replace hlA := Lib.hid hlA
  replace hlB := Lib.hid hlB
  have HP := Lib.hid hp
  have HAA := Lib.hid hA
  have HBB := Lib.hid hB
  clear hp hA hB
  go_enter Tryz.func5, Tryz.ntmps5
  unfold progV
  go_wp2_with fail
  rw [← hW]
  simp only [← hkp]
  replace hkp := Lib.hid hkp
  clear hW
  go_upto_region 4 with (go_at_call 7; refine HF1.mono ?_; rintro e w1 ⟨rfl, hb1⟩; have P1 : PBox w1 kp p Va Ab vc cb := below_blk hb1 P0 (blk_lt P0); have hb2 := hb0.trans (lower_below hb1 hb0.size))
  clear HF1 P0 hb0 hb1
  obtain ⟨p0, p1, p2, p3⟩ := P1.cells
  cases lA with
  | false =>
    go_wp2_with (first | (go_at_call 8; refine (HLA _ hb2).mono ?_; rintro e w2 ⟨rfl, hb3⟩; have hb4 := hb2.trans (lower_below hb3 hb2.size)))
    exact bodyPost_ret (v := .bool true) (by simp [results, Tryz.results5, go_sem]) rfl ⟨rfl, hb4⟩
  | true =>
  cases lB with
  | false =>
    go_wp2_with (first | (go_at_call 8; refine (HLA _ hb2).mono ?_; rintro e w2 ⟨rfl, hb3⟩; have hb4 := hb2.trans (lower_below hb3 hb2.size); have P2 : PBox w2 kp p Va Ab vc cb := below_blk hb3 P1 (blk_lt P1); obtain ⟨q0, q1, q2, q3⟩ := P2.cells; clear HLA) | (go_at_call 8; refine (HLB _ hb4).mono ?_; rintro e w3 ⟨rfl, hb5⟩; have hb6 := hb4.trans (lower_below hb5 hb4.size)))
    exact bodyPost_ret (v := .bool true) (by simp [results, Tryz.results5, go_sem]) rfl ⟨rfl, hb6⟩
  | true =>
  obtain ⟨hn16, hv20, hfl, hwk, hiA⟩ := light_parts (Eq.symm (show true = _ from hlA))
  obtain ⟨-, -, -, -, hiB⟩ := light_parts (Eq.symm (show true = _ from hlB))
  clear hlA hlB
  have HCh := fun (w0 : World) (hb : Below w.heap.size w w0) => ref_check ((show PLies w p Va Ab vc cb from HP).below hb) (by omega) (by omega)
  obtain ⟨fc, hfc⟩ : ∃ fc, fc = Al.checkF p := ⟨_, rfl⟩
  simp only [← hfc] at HCh
  have fld := fun w0 => field_code w0 fc.code fc.pos fc.placed
  by_cases hz : fc.code ≠ 0
  · have zz : (fc.code != 0) = true := by simp [hz]
    clear hz hn16 hv20 hfl hwk hiA hiB
    replace hfc := Lib.hid hfc
    go_wp2_with (first | (go_at_call 8; refine (HLA _ hb2).mono ?_; rintro e w2 ⟨rfl, hb3⟩; have hb4 := hb2.trans (lower_below hb3 hb2.size); have P2 : PBox w2 kp p Va Ab vc cb := below_blk hb3 P1 (blk_lt P1); obtain ⟨q0, q1, q2, q3⟩ := P2.cells; clear HLA) | (go_at_call 8; refine (HLB _ hb4).mono ?_; rintro e w3 ⟨rfl, hb5⟩; have hb6 := hb4.trans (lower_below hb5 hb4.size); have P3 : PBox w3 kp p Va Ab vc cb := below_blk hb5 P2 (blk_lt P2); obtain ⟨r0, r1, r2, r3⟩ := P3.cells) | (go_at_call 19; refine (HCh _ hb6).mono ?_; rintro e w4 ⟨rfl, hb7⟩; have hb8 := hb6.trans (lower_below hb7 hb6.size)))
    exact bodyPost_ret (v := .bool true) (by simp [results, Tryz.results5, go_sem]) rfl ⟨rfl, hb8⟩
  · replace hz : fc.code = 0 := by omega
    have hFi : Al.Fine p := Al.fine_of_check (by rw [← hfc]; exact hz)
    replace hfc := Lib.hid hfc
    rw [hz] at fld
    simp only [hz] at HCh
    have HFl := fun W0 hb => flat_all (W0 := w) 7 p.body Ab cb (by have := hFi.depth; omega) (show PLies w p Va Ab vc cb from HP).b (by omega) W0 hb
    obtain ⟨FL, hFL⟩ : ∃ FL, FL = Al.flatL p.body := ⟨_, rfl⟩
    rw [← hFL] at HFl
    have hF30 : FL.length ≤ 30 := by rw [hFL]; exact hfl
    replace hFL := Lib.hid hFL
    replace hfl := Lib.hid hfl
    have z0 : ((0 : Int) != 0) = false := by decide
    clear hz
    go_upto_region 6 with (first | (go_at_call 8; refine (HLA _ hb2).mono ?_; rintro e w2 ⟨rfl, hb3⟩; have hb4 := hb2.trans (lower_below hb3 hb2.size); have P2 : PBox w2 kp p Va Ab vc cb := below_blk hb3 P1 (blk_lt P1); obtain ⟨q0, q1, q2, q3⟩ := P2.cells; clear HLA) | (go_at_call 8; refine (HLB _ hb4).mono ?_; rintro e w3 ⟨rfl, hb5⟩; have hb6 := hb4.trans (lower_below hb5 hb4.size); have P3 : PBox w3 kp p Va Ab vc cb := below_blk hb5 P2 (blk_lt P2); obtain ⟨r0, r1, r2, r3⟩ := P3.cells) | (go_at_call 19; refine (HCh _ hb6).mono ?_; rintro e w4 ⟨rfl, hb7⟩; have hb8 := hb6.trans (lower_below hb7 hb6.size); have P4 : PBox w4 kp p Va Ab vc cb := below_blk hb7 P3 (blk_lt P3); obtain ⟨s0, s1, s2, s3⟩ := P4.cells))
    clear P1 P2 P3 p0 p1 p2 p3 q0 q1 q2 q3 r0 r1 r2 r3 hb2 hb3 hb4 hb5 hb6 hb7 HLB HCh fld z0
    go_wp2_with (first | (go_at_call 20; refine (HFl _ hb8).mono ?_; rintro e w5 ⟨vf, rfl, hrow, hb9⟩; obtain ⟨fa, fcap, rfl⟩ := rowS_slice hrow; have P5 : PBox w5 kp p Va Ab vc cb := below_blk hb9 P4 (blk_lt P4); have hb10 := hb8.trans (lower_below hb9 hb8.size)))
    clear P4 s0 s1 s2 s3 hb8 hb9 HFl
    replace hrow := Lib.hid hrow
    replace P5 := Lib.hid P5
    replace hb10 := Lib.hid hb10
    go_loopg [9] (FL.length + 1) (fun gk v9 w' => ∃ i : Nat, v9 = .int .i64 i ∧ i + gk = FL.length + 1 ∧ i ≤ FL.length ∧ Hid (∀ s ∈ FL.take i, s.op < 12 ∨ s.op = 15) ∧ w' = w5)
    case atStart => exact ⟨0, rfl, by omega, by omega, Lib.hid (by simp), rfl⟩
    case round =>
      obtain ⟨i, rfl, hg, hi2, HO, hww⟩ := hrel
      subst hww
      have hrw := show RowS w wr _ (.slice fa FL.length fcap) FL from hrow
      by_cases hil : i < FL.length
      · obtain ⟨k1, rfl⟩ : ∃ k1, gk = k1 + 1 := ⟨gk - 1, by omega⟩
        obtain ⟨gf, A6, c6, A7, c7, hfa, -, -, -, -, d0, -⟩ := rowS_get hrw hil
        have hnx : (FL[i].op < 12 ∨ FL[i].op = 15) → ∀ s ∈ FL.take (i + 1), s.op < 12 ∨ s.op = 15 := fun h s hs => by
          rw [List.take_succ_eq_append_getElem hil] at hs
          rcases List.mem_append.1 hs with hs | hs
          · exact HO s hs
          · rw [List.mem_singleton.1 hs]; exact h
        obtain ⟨o, ho⟩ : ∃ o, o = FL[i].op := ⟨_, rfl⟩
        rw [← ho] at d0 hnx
        replace ho := Lib.hid ho
        replace hnx := Lib.hid hnx
        subst hfa
        have r0 : (0 : Int) ≤ (i : Int) := by omega
        have r1 : (i : Int) < (FL.length : Int) := by omega
        have r2 : decide ((i : Int) < (FL.length : Int)) = true := decide_eq_true r1
        clear hrw
        by_cases ho1 : 12 ≤ o
        · have e1 : decide (12 ≤ o) = true := decide_eq_true ho1
          by_cases ho2 : o = 15
          · have e2 : (o != 15) = false := by simp [ho2]
            have HN : Hid (∀ s ∈ FL.take (i + 1), s.op < 12 ∨ s.op = 15) := Lib.hid ((show _ → _ from hnx) (.inr ho2))
            clear ho2
            go_wp2_with fail
            clear d0 e1 e2 r2
            go_roundg k1
            case measure => omega
            case rel => exact ⟨i + 1, by simp, by omega, by omega, HN, rfl⟩
          · have e2 : (o != 15) = true := by simp [ho2]
            clear ho2
            go_wp2_with fail
            exact bodyPost_ret (v := .bool true) (by simp [results, Tryz.results5, go_sem]) rfl ⟨rfl, hb10⟩
        · have e1 : decide (12 ≤ o) = false := decide_eq_false ho1
          have HN : Hid (∀ s ∈ FL.take (i + 1), s.op < 12 ∨ s.op = 15) := Lib.hid ((show _ → _ from hnx) (.inl (by omega)))
          go_wp2_with fail
          clear d0 e1 r2
          go_roundg k1
          case measure => omega
          case rel => exact ⟨i + 1, by simp, by omega, by omega, HN, rfl⟩
      · have hie : i = FL.length := by omega
        have t9 : decide ((i : Int) < (FL.length : Int)) = false := by simp; omega
        have t8 : decide (i < FL.length) = false := by simp; omega
        have hops : Hid (∀ s ∈ FL, s.op < 12 ∨ s.op = 15) := by rw [hie, List.take_length] at HO; exact HO
        clear HO hie hg hi2 hil hrw
        go_upto_region 12 with fail
        have P := show PBox wr kp p Va Ab vc cb from P5
        have hbb := show Below w.heap.size w wr from hb10
        have HIA := fun (w0 : World) (hb : Below w.heap.size w w0) => ref_inputs (w := w0) (q := p.q) (n := p.n) (tape := []) (Ta := none) (ic := ic) (tc := 0) (vc := vc) 0 ((show PLies w p Va Ab vc cb from HP).below hb).v (by omega) (Kd.C_below (show Kd.C (Kd.slice 3 (Kd.int .i64)) w Ia insA.length insA from HAA) hb) (by omega)
        have HIB := fun (w0 : World) (hb : Below w.heap.size w w0) => ref_inputs (w := w0) (q := p.q) (n := p.n) (tape := []) (Ta := none) (ic := jc) (tc := 0) (vc := vc) 0 ((show PLies w p Va Ab vc cb from HP).below hb).v (by omega) (Kd.C_below (show Kd.C (Kd.slice 3 (Kd.int .i64)) w Ib insB.length insB from HBB) hb) (by omega)
        obtain ⟨fA, hfA⟩ : ∃ fA, fA = Al.inputsF p.q p.n p.vars insA [] 0 := ⟨_, rfl⟩
        obtain ⟨fB, hfB⟩ : ∃ fB, fB = Al.inputsF p.q p.n p.vars insB [] 0 := ⟨_, rfl⟩
        simp only [← hfA] at HIA
        simp only [← hfB] at HIB
        unfold faultV at HIA HIB
        have fldA := fun w0 => field_code w0 fA.code fA.pos fA.placed
        have fldB := fun w0 => field_code w0 fB.code fB.pos fB.placed
        clear P5 hb10
        obtain ⟨p0, p1, p2, p3⟩ := P.cells
        by_cases zA : fA.code ≠ 0
        · have zz : (fA.code != 0) = true := by simp [zA]
          replace hfA := Lib.hid hfA
          clear zA
          go_wp2_with (first | (go_at_call 21; refine (HIA _ hbb).mono ?_; rintro e w6 ⟨rfl, hb11⟩; have P6 : PBox w6 kp p Va Ab vc cb := below_blk hb11 P (blk_lt P); have hb12 := hbb.trans (lower_below hb11 hbb.size); obtain ⟨x0, x1, x2, x3⟩ := P6.cells; clear HIA))
          exact bodyPost_ret (v := .bool true) (by simp [results, Tryz.results5, go_sem]) rfl ⟨rfl, hb12⟩
        replace zA : fA.code = 0 := by omega
        have hIA : Al.InOk p insA [] := Al.inOk_of (by rw [← hfA]; exact zA)
        simp only [zA] at HIA fldA
        have zz : ((0 : Int) != 0) = false := by decide
        replace hfA := Lib.hid hfA
        clear zA
        by_cases zB : fB.code ≠ 0
        · have zz2 : (fB.code != 0) = true := by simp [zB]
          replace hfB := Lib.hid hfB
          clear zB
          go_wp2_with (first | (go_at_call 21; refine (HIA _ hbb).mono ?_; rintro e w6 ⟨rfl, hb11⟩; have P6 : PBox w6 kp p Va Ab vc cb := below_blk hb11 P (blk_lt P); have hb12 := hbb.trans (lower_below hb11 hbb.size); obtain ⟨x0, x1, x2, x3⟩ := P6.cells; clear HIA) | (go_at_call 21; refine (HIB _ hb12).mono ?_; rintro e w7 ⟨rfl, hb13⟩; have P7 : PBox w7 kp p Va Ab vc cb := below_blk hb13 P6 (blk_lt P6); have hb14 := hb12.trans (lower_below hb13 hb12.size)))
          exact bodyPost_ret (v := .bool true) (by simp [results, Tryz.results5, go_sem]) rfl ⟨rfl, hb14⟩
        replace zB : fB.code = 0 := by omega
        have hIB : Al.InOk p insB [] := Al.inOk_of (by rw [← hfB]; exact zB)
        simp only [zB] at HIB fldB
        replace hfB := Lib.hid hfB
        clear zB
        go_upto_region 14 with (first | (go_at_call 21; refine (HIA _ hbb).mono ?_; rintro e w6 ⟨rfl, hb11⟩; have P6 : PBox w6 kp p Va Ab vc cb := below_blk hb11 P (blk_lt P); have hb12 := hbb.trans (lower_below hb11 hbb.size); obtain ⟨x0, x1, x2, x3⟩ := P6.cells; clear HIA) | (go_at_call 21; refine (HIB _ hb12).mono ?_; rintro e w7 ⟨rfl, hb13⟩; have P7 : PBox w7 kp p Va Ab vc cb := below_blk hb13 P6 (blk_lt P6); have hb14 := hb12.trans (lower_below hb13 hb12.size)))
        clear HIB fldA fldB zz P P6 p0 p1 p2 p3 x0 x1 x2 x3 hbb hb11 hb12 hb13
        obtain ⟨CI, hCI⟩ : ∃ CI, CI = Al.insts (codeP p) := ⟨_, rfl⟩
        obtain ⟨M, hM⟩ : ∃ M, M = (envP p).mem := ⟨_, rfl⟩
        have HL := lower_fine hFi ((show PLies w p Va Ab vc cb from HP).below hb14)
        rw [← hM, ← hCI, ← Al.insts_length (codeP p), ← hCI] at HL
        unfold progV at HL
        have hops2 : ∀ s ∈ Al.flatL p.body, s.op < 12 ∨ s.op = 15 := by rw [← show FL = _ from hFL]; exact hops
        obtain ⟨fuel, L, hfe, hfu, hrun⟩ := Al.plain_run hFi hn16 hops2 hwk (len := lenP p) rfl (c := codeP p) rfl
        obtain ⟨hLl, mA, tA, hrA⟩ := hrun insA hIA
        obtain ⟨-, mB, tB, hrB⟩ := hrun insB hIB
        rw [← hCI] at hrA hrB
        have HS := fun w0 => steps_any w0 p.q p.n 1000 ⟨by have := hFi.n.1; omega, hn16⟩ ⟨by omega, by omega⟩
        simp only [hfe] at HS
        replace hrA : Hid (Al.rrun CI [] M fuel 0 (List.replicate 25 0) (Al.memF p M insA []) [] 0 = ⟨0, mA, L, tA, -1⟩) := by rw [hM]; exact Lib.hid hrA
        replace hrB : Hid (Al.rrun CI [] M fuel 0 (List.replicate 25 0) (Al.memF p M insB []) [] 0 = ⟨0, mB, L, tB, -1⟩) := by rw [hM]; exact Lib.hid hrB
        replace hCI := Lib.hid hCI
        replace hM := Lib.hid hM
        clear hrun hfe hops2
        obtain ⟨p0, p1, p2, p3⟩ := P7.cells
        go_upto_region 15 with (first | (go_at_call 10; refine HL.mono ?_; rintro e w8 ⟨vi, vs, rfl, h1, h2, hb15⟩; obtain ⟨ia, ic2, rfl⟩ := own_slice h1; obtain ⟨sa, sc, rfl⟩ := own_slice h2; have P8 : PBox w8 kp p Va Ab vc cb := below_blk hb15 P7 (blk_lt P7); have hb16 := hb14.trans (lower_below hb15 hb14.size)))
        clear HL P7 p0 p1 p2 p3
        refine gen_world (Q := fun W => Code.wp _ _ _ _ W) _ (fun W => PBox W kp p Va Ab vc cb ∧ W.heap[w8.heap.size]? = some (.cells #[.slice ia CI.length ic2, .int .i64 24, .int .i64 M] 41 (0, 0)) ∧ W.ownsRow w7.heap.size 97 6 (.slice ia CI.length ic2) CI.length (instsV CI) ∧ Below w.heap.size w W) ⟨alloc_blk _ P8, heap_alloc_new w8 _, h1.alloc _, hb16.alloc (Nat.le_trans hb14.size hb15.size) _⟩ ?_
        clear P8 h1 h2 hb15 hb16 hb14
        rintro W9 ⟨P9, C9, O9, hb17⟩
        obtain ⟨kc, hkc⟩ : ∃ kc, kc = w8.heap.size := ⟨_, rfl⟩
        obtain ⟨b1, hb1⟩ : ∃ b1, b1 = w7.heap.size := ⟨_, rfl⟩
        rw [← hkc] at C9
        rw [← hb1] at O9
        simp only [← hkc]
        replace hkc := Lib.hid hkc
        clear hb1
        obtain ⟨p0, p1, p2, p3⟩ := P9.cells
        go_upto_region 18 with (first | (go_at_call 14; refine (HS _).mono ?_; rintro e w10 ⟨rfl, hb18⟩; have P10 : PBox w10 kp p Va Ab vc cb := below_blk hb18 P9 (blk_lt P9); have C10 := below_blk hb18 C9 (blk_lt C9); have O10 := own_of O9 fun k hk => hb18.block k (O9.lt k hk).2; have hb10 := hb17.trans (lower_below hb18 hb17.size)))
        clear P9 C9 O9 hb17 hb18 p0 p1 p2 p3 HS
        have HMA := fun (w0 : World) (hb : Below w.heap.size w w0) => mem_plain (ic := ic) ((show PLies w p Va Ab vc cb from HP).below hb) hFi hIA (Kd.C_below (show Kd.C (Kd.slice 3 (Kd.int .i64)) w Ia insA.length insA from HAA) hb) (show M = _ from hM)
        have HRA := fun (w0 : World) (b1 b2 mc : Nat) (ma : Option Addr) => run_plain (w := w0) (b1 := b1) (b2 := b2) (mc := mc) (ma := ma) (ia := ia) (ic := ic2) hFi hIA (show CI = _ from hCI) (show M = _ from hM) hfu (show _ = _ from hrA)
        have HMB := fun (w0 : World) (hb : Below w.heap.size w w0) => mem_plain (ic := jc) ((show PLies w p Va Ab vc cb from HP).below hb) hFi hIB (Kd.C_below (show Kd.C (Kd.slice 3 (Kd.int .i64)) w Ib insB.length insB from HBB) hb) (show M = _ from hM)
        have HRB := fun (w0 : World) (b1 b2 mc : Nat) (ma : Option Addr) => run_plain (w := w0) (b1 := b1) (b2 := b2) (mc := mc) (ma := ma) (ia := ia) (ic := ic2) hFi hIB (show CI = _ from hCI) (show M = _ from hM) hfu (show _ = _ from hrB)
        have S10 : PS w kp kc b1 none p Va Ab vc cb ia ic2 CI M w10 := ⟨P10, C10, O10, hb10, fun k hk => by cases hk⟩
        clear P10 C10 O10 hb10
        go_cut [14] from 90 to 98 (fun v14 wc => ∃ (kr xn xc lc : Nat) (xa la : Option Addr), v14 = .pointer (some ⟨kr, 0, none⟩) ∧ PS w kp kc b1 none p Va Ab vc cb ia ic2 CI M wc ∧ wc.heap[kr]? = some (.cells #[.int .i64 0, .slice xa xn xc, .slice la L.length lc, .int .i64 tA, .int .i64 (-1)] 51 (0, 0)) ∧ wc.ownsRow w.heap.size 103 2 (.slice la L.length lc) L.length (leaksV L))
        case first =>
          have S1 := S10
          go_region_held3 (fun w' => w'.cell? ⟨kp, 0, none⟩ = some (.int .i64 p.q) ∧ w'.cell? ⟨kp, 1, none⟩ = some (.int .i64 p.n) ∧ w'.cell? ⟨kp, 2, none⟩ = some (.slice Va p.vars.length vc) ∧ w'.cell? ⟨kp, 3, none⟩ = some (.slice Ab p.body.length cb) ∧ w'.cell? ⟨kc, 0, none⟩ = some (.slice ia CI.length ic2) ∧ w'.cell? ⟨kc, 1, none⟩ = some (.int .i64 24) ∧ w'.cell? ⟨kc, 2, none⟩ = some (.int .i64 M)) ((first | with_reducible exact S1.cells | with_reducible exact S1.drew.cells | with_reducible exact S1.new _ | with_reducible exact S1.alloc.drew.cells | with_reducible exact (S1.set5 _ _ _ _ _).cells)) (first
            | (go_at_call 13; refine (other_any _ _ _ _ _ _).mono ?_; rintro e w11 ⟨rfl, g1⟩; (first | with_reducible replace S1 := S1.drew.below g1 | with_reducible replace S1 := S1.alloc.drew.below g1); obtain ⟨p0, p1, p2, p3, c0, c1, c2⟩ := S1.cells)
            | (go_at_call 11; (first | with_reducible refine (HMA _ S1.b).mono ?_ | with_reducible refine (HMA _ S1.alloc.b).mono ?_); rintro e w12 ⟨ma, mc, rfl, hm, g2⟩; (first | with_reducible replace S1 := S1.below g2 | with_reducible replace S1 := S1.alloc.below g2); clear p0 p1 p2 p3 c0 c1 c2; obtain ⟨p0, p1, p2, p3, c0, c1, c2⟩ := S1.cells)
            | (go_at_call 12; (first | with_reducible refine (HRA _ _ _ _ _ S1.O hm).mono ?_ | with_reducible refine (HRA _ _ _ _ _ S1.alloc.O (hm.alloc _)).mono ?_); rintro e w13 ⟨xa, xn, xc, la, lc, rfl, hl, g3⟩; (first | with_reducible have hl2 := own_base hl S1.b.size | with_reducible have hl2 := own_base hl S1.alloc.b.size); (first | with_reducible replace S1 := S1.below g3 | with_reducible replace S1 := S1.alloc.below g3); clear p0 p1 p2 p3 c0 c1 c2; obtain ⟨p0, p1, p2, p3, c0, c1, c2⟩ := S1.cells; try (obtain ⟨z0, z1, z2, z3, z4, f0, f1, f2, f3, f4⟩ := S1.zero)))
          all_goals go_wp2_with fail
          all_goals go_meet
          · exact ⟨w13.heap.size, xn, xc, lc, xa, la, rfl, S1.newP _, heap_alloc_new w13 _, hl2.alloc _⟩
          all_goals exact ⟨_, xn, xc, lc, xa, la, rfl, S1.set5 _ _ _ _ _, set5 (S1.z _ rfl).2 _ _ _ _ _, own_set5 hl2 (S1.z _ rfl).2 (by decide)⟩
        case rest =>
          obtain ⟨ka, xn, xc, lcA, xa, laA, rfl, SA, RA, OA⟩ := hcut
          clear S10 HMA HRA
          have SB : PS wc kp kc b1 none p Va Ab vc cb ia ic2 CI M wc := ⟨SA.P, SA.C, SA.O, Below.refl _ _, fun k hk => by cases hk⟩
          have hbw := SA.b
          clear SA
          replace HMB := fun (w0 : World) (hb : Below wc.heap.size wc w0) => HMB w0 (hbw.trans (lower_below hb hbw.size))
          obtain ⟨wA, hwA⟩ : ∃ wA, wA = wc := ⟨_, rfl⟩
          rw [← hwA] at SB RA OA hbw ⊢
          simp only [← hwA] at HMB
          clear hwA wc
          go_upto_region 19 with fail
          go_cut [15] from 99 to 107 (fun v15 wc => ∃ (kr xn xc lc : Nat) (xa la : Option Addr), v15 = .pointer (some ⟨kr, 0, none⟩) ∧ PS wA kp kc b1 none p Va Ab vc cb ia ic2 CI M wc ∧ wc.heap[kr]? = some (.cells #[.int .i64 0, .slice xa xn xc, .slice la L.length lc, .int .i64 tB, .int .i64 (-1)] 51 (0, 0)) ∧ wc.ownsRow wA.heap.size 103 2 (.slice la L.length lc) L.length (leaksV L))
          case first =>
            have S1 := SB
            go_region_held3 (fun w' => w'.cell? ⟨kp, 0, none⟩ = some (.int .i64 p.q) ∧ w'.cell? ⟨kp, 1, none⟩ = some (.int .i64 p.n) ∧ w'.cell? ⟨kp, 2, none⟩ = some (.slice Va p.vars.length vc) ∧ w'.cell? ⟨kp, 3, none⟩ = some (.slice Ab p.body.length cb) ∧ w'.cell? ⟨kc, 0, none⟩ = some (.slice ia CI.length ic2) ∧ w'.cell? ⟨kc, 1, none⟩ = some (.int .i64 24) ∧ w'.cell? ⟨kc, 2, none⟩ = some (.int .i64 M)) ((first | with_reducible exact S1.cells | with_reducible exact S1.drew.cells | with_reducible exact S1.new _ | with_reducible exact S1.alloc.drew.cells | with_reducible exact (S1.set5 _ _ _ _ _).cells)) (first
              | (go_at_call 13; refine (other_any _ _ _ _ _ _).mono ?_; rintro e w11 ⟨rfl, g1⟩; (first | with_reducible replace S1 := S1.drew.below g1 | with_reducible replace S1 := S1.alloc.drew.below g1); obtain ⟨p0, p1, p2, p3, c0, c1, c2⟩ := S1.cells)
              | (go_at_call 11; (first | with_reducible refine (HMB _ S1.b).mono ?_ | with_reducible refine (HMB _ S1.alloc.b).mono ?_); rintro e w12 ⟨ma, mc, rfl, hm, g2⟩; (first | with_reducible replace S1 := S1.below g2 | with_reducible replace S1 := S1.alloc.below g2); clear p0 p1 p2 p3 c0 c1 c2; obtain ⟨p0, p1, p2, p3, c0, c1, c2⟩ := S1.cells)
              | (go_at_call 12; (first | with_reducible refine (HRB _ _ _ _ _ S1.O hm).mono ?_ | with_reducible refine (HRB _ _ _ _ _ S1.alloc.O (hm.alloc _)).mono ?_); rintro e w13 ⟨xa, xn, xc, la, lc, rfl, hl, g3⟩; (first | with_reducible have hl2 := own_base hl S1.b.size | with_reducible have hl2 := own_base hl S1.alloc.b.size); (first | with_reducible replace S1 := S1.below g3 | with_reducible replace S1 := S1.alloc.below g3); clear p0 p1 p2 p3 c0 c1 c2; obtain ⟨p0, p1, p2, p3, c0, c1, c2⟩ := S1.cells; try (obtain ⟨z0, z1, z2, z3, z4, f0, f1, f2, f3, f4⟩ := S1.zero)))
            all_goals go_wp2_with fail
            all_goals go_meet
            · exact ⟨w13.heap.size, xn, xc, lc, xa, la, rfl, S1.newP _, heap_alloc_new w13 _, hl2.alloc _⟩
            all_goals exact ⟨_, xn, xc, lc, xa, la, rfl, S1.set5 _ _ _ _ _, set5 (S1.z _ rfl).2 _ _ _ _ _, own_set5 hl2 (S1.z _ rfl).2 (by decide)⟩
          case rest =>
            obtain ⟨kb, yn, yc, lcB, ya, laB, rfl, SC, RB2, OB⟩ := hcut
            have RA2 := below_blk SC.b RA (blk_lt RA)
            have OA2 := own_of OA fun k hk => SC.b.block k (OA.lt k hk).2
            have hbz := hbw.trans (lower_below SC.b hbw.size)
            clear SB SC HMB HRB RA OA hbw
            have HSL := same_leaks OA2 OB hLl
            have a0 : wc.cell? ⟨ka, 0, none⟩ = some (.int .i64 0) := (cell_blk RA2 _).trans rfl
            have a2 : wc.cell? ⟨ka, 2, none⟩ = some (.slice laA L.length lcA) := (cell_blk RA2 _).trans rfl
            have b0 : wc.cell? ⟨kb, 0, none⟩ = some (.int .i64 0) := (cell_blk RB2 _).trans rfl
            have b2 : wc.cell? ⟨kb, 2, none⟩ = some (.slice laB L.length lcB) := (cell_blk RB2 _).trans rfl
            go_wp2_with (first | (go_at_call 18; refine HSL.mono ?_; rintro e w20 ⟨rfl, hb20⟩; have hb21 := hbz.trans (lower_below hb20 hbz.size)))
            exact bodyPost_ret (v := .bool true) (by simp [results, Tryz.results5, go_sem]) rfl ⟨rfl, hb21⟩
end Go.Proofs.YtkplfaionpplaaaGreatDoor
