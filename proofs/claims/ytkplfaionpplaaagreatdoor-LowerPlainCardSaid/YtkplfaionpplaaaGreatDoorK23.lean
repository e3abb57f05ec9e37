/- Part 23: B61, B64. -/
import Derived.Test.YtkplfaionpplaaaGreatDoorK22
set_option linter.unusedVariables false
set_option linter.unusedSimpArgs false
namespace Go.Proofs.YtkplfaionpplaaaGreatDoor
open Go.RowKit Go.Proofs.YtkplfaionpplaaaGreatDoorW.PrintWords
theorem cell_lt {w : World} {a : Addr} {v : Value} (h : w.cell? a = some v) : a.block < w.heap.size := by
  unfold World.cell? at h
  cases hb : w.heap[a.block]? with
  | none => rw [hb] at h; simp at h
  | some o => exact (Array.getElem?_eq_some_iff.1 hb).1
theorem intsC_cell {w : World} {A : Option Addr} {n : Nat} {l : List Int} {kk : IntKind} (h : (Kd.int kk).C w A n l) {j : Nat} (hj : j < l.length) {ad : Addr} (he : A = some ad) (hn : j < n := by omega) : w.cell? (ad.add j) = some (.int kk l[j]) := by
  obtain ⟨ad', e, h1⟩ := intsC_get h hn hj
  rw [he] at e
  cases e
  exact h1
theorem frozen_since {w w' : World} {a : Addr} {v : Value} (hb : Below w.heap.size w w') (h : w.cell? a = some v) (hf : w.frozen? a = false) : w'.frozen? a = false := by
  unfold World.frozen? at hf ⊢
  rw [hb.block _ (cell_lt h)]
  exact hf
theorem setRow_step {m a : List Int} {at_ k : Nat} (h : k < a.length) : Al.setRow m (at_ + k) (a.drop k) = Al.setRow (m.set (at_ + k) a[k]) (at_ + (k + 1)) (a.drop (k + 1)) := by
  rw [List.drop_eq_getElem_cons h]; rfl
/-- a word of a row is written: the row, and what else lies there -/
theorem word_set {w : World} {base g cap n : Nat} {M : List Int} (h : w.ownsRow base 56 1 (.slice (some ⟨g, 0, none⟩) n cap) n (wordsV M)) (j : Nat) (x : Int) :
    (w.setCell ⟨g, j, none⟩ (.int .u64 x)).ownsRow base 56 1 (.slice (some ⟨g, 0, none⟩) n cap) n (wordsV (M.set j x)) ∧ base ≤ g := by
  obtain ⟨s1, _⟩ := h.stored j (.int .u64 x)
  rw [wordsV_set] at s1
  exact ⟨s1, (h.lt g rfl).1⟩
structure MB (w0 w : World) (kp g n : Nat) (p : Al.Prog) (Va Ab : Option Addr) (vc cb : Nat) (M : List Int) : Prop where
  p : PBox w kp p Va Ab vc cb
  m : w.ownsRow w0.heap.size 56 1 (.slice (some ⟨g, 0, none⟩) n n) n (wordsV M)
  b : Below w0.heap.size w0 w
section
variable {w0 w w' : World} {kp g n : Nat} {p : Al.Prog} {Va Ab : Option Addr} {vc cb : Nat} {M : List Int}
theorem MB.ne (h : MB w0 w kp g n p Va Ab vc cb M) : kp ≠ g := fun e => by subst e; exact own_ne_blk h.m h.p (by decide) rfl
theorem MB.below (h : MB w0 w kp g n p Va Ab vc cb M) (hb : Below w.heap.size w w') : MB w0 w' kp g n p Va Ab vc cb M :=
  ⟨below_blk hb h.p (blk_lt h.p), own_of h.m fun k hk => hb.block k (h.m.lt k hk).2, h.b.trans (lower_below hb h.b.size)⟩
theorem MB.drew (h : MB w0 w kp g n p Va Ab vc cb M) : MB w0 w.drew kp g n p Va Ab vc cb M := ⟨h.p, h.m, below_drew' h.b⟩
theorem MB.drewN (h : MB w0 w kp g n p Va Ab vc cb M) (k : Nat) : MB w0 (w.drewN k) kp g n p Va Ab vc cb M := ⟨h.p, h.m, ⟨h.b.os, h.b.tape, h.b.output, h.b.size, h.b.block⟩⟩
theorem MB.set (h : MB w0 w kp g n p Va Ab vc cb M) (j : Nat) (x : Int) : MB w0 (w.setCell ⟨g, j, none⟩ (.int .u64 x)) kp g n p Va Ab vc cb (M.set j x) :=
  ⟨by rw [PBox, set_blk_ne _ _ h.ne]; exact h.p, (word_set h.m j x).1, below_set h.b (word_set h.m j x).2⟩
theorem MB.len (h : MB w0 w kp g n p Va Ab vc cb M) : M.length = n := by have := own_one h.m; simpa [wordsV] using this
theorem MB.keep (h : MB w0 w kp g n p Va Ab vc cb M) {base : Nat} {e : TypeId} {size n' : Nat} {v : Value} {xs : List Value} (hk : w.ownsRow base e size v n' xs) (he : 56 ≠ e) (j : Nat) (u : Value) : (w.setCell ⟨g, j, none⟩ u).ownsRow base e size v n' xs := by
  obtain ⟨c, hc⟩ := own_type h.m rfl
  exact own_of hk fun k hv => set_blk_ne _ _ fun e2 => own_ne_blk hk hc he (by rw [hv, e2])
theorem MB.word (h : MB w0 w kp g n p Va Ab vc cb M) {j : Nat} (hj : j < n) : ∃ x, w.cell? ⟨g, j, none⟩ = some (.int .u64 x) ∧ w.frozen? ⟨g, j, none⟩ = false := by
  have hl := h.len
  obtain ⟨g', e, h1, h2⟩ := words_get (M := M) h.m (j := j) (by omega) hl.symm
  cases e
  exact ⟨_, h1, h2⟩
end
set_option maxRecDepth 100000 in
set_option maxHeartbeats 6400000 in
theorem ref_memory {w : World} {p : Al.Prog} {Va Ab Ia Ta : Option Addr} {vc cb ic tc : Nat} {ins : List (List Int)} {tape : List Int} {mem : Nat} (hp : PLies w p Va Ab vc cb) (hF : Al.Fine p) (hio : Al.InOk p ins tape)
    (hi : Kd.C (Kd.slice 3 (Kd.int .i64)) w Ia ins.length ins) (ht : (Kd.int .u32).C w Ta tape.length tape) (ht0 : ∀ x ∈ tape, 0 ≤ x ∧ x < 4294967296) (hmem : Al.endF p + 4096 ≤ (mem : Int)) (hmem2 : mem ≤ 65536) :
    Calls Tryz.prog 11 #[progV p Va Ab vc cb, .int .i64 mem, .slice Ia ins.length ic, .slice Ta tape.length tc] w fun e w' => ∃ v, e = .returned v ∧ w'.ownsRow w.heap.size 56 1 v mem (wordsV (Al.memF p mem ins tape)) ∧ Below w.heap.size w w' := by
  obtain ⟨j0, hj0, jz0, jz1, jz2⟩ := info_parts Tryz.infoU64
  obtain ⟨W, hW⟩ : ∃ W, W = w.alloc (.cells #[.int .i64 p.q, .int .i64 p.n, .slice Va p.vars.length vc, .slice Ab p.body.length cb] 27) := ⟨_, rfl⟩
  have hb0 : Below w.heap.size w W := by rw [hW]; exact (Below.refl _ _).alloc (Nat.le_refl _) _
  obtain ⟨kp, hkp⟩ : ∃ kp, kp = w.heap.size := ⟨_, rfl⟩
  have P0 : PBox W kp p Va Ab vc cb := by rw [hW, hkp]; exact heap_alloc_new w _
  have hq := hF.q
  have hn := hF.n
  have hvl := hF.vars
  have hnv : 0 ≤ (p.vars.length : Int) * p.n := Int.mul_nonneg (by omega) (by omega)
  have hE : Al.endF p = 2 + p.vars.length * p.n := rfl
  have htl := hio.tape
  have hm4 : 4098 ≤ mem := by omega
  obtain ⟨K, hK⟩ : ∃ K, K = Al.kindsOf p.vars 1 := ⟨_, rfl⟩
  have hKl : K.length = ins.length := by rw [hK]; exact hio.len.symm
  have hKlH := Lib.hid hKl
  have hKr : ∀ (i : Nat) (h : i < K.length), 0 ≤ K[i] ∧ K[i] < p.vars.length := fun i h => Al.kindsOf_range (by rw [← hK]; exact List.getElem_mem h)
  have hK12 : K.length ≤ 12 := by rw [hK]; have := kindsFrom_len p.vars 1 0; unfold Al.kindsOf; omega
  obtain ⟨FM, hFM⟩ : ∃ FM, FM = Al.memF p mem ins tape := ⟨_, rfl⟩
  rw [← hFM]
  unfold Al.memF at hFM
  rw [← hK] at hFM
  have HK : ∀ W0 : World, Below w.heap.size w W0 → Calls Tryz.prog 33 #[.agg #[.int .i64 p.q, .int .i64 p.n, .slice Va p.vars.length vc, .slice Ab p.body.length cb], .int .i64 1] W0 fun e w' => ∃ v, e = .returned v ∧ w'.ownsRow W0.heap.size 3 1 v K.length (intsV K) ∧ Below W0.heap.size W0 w' := by
    intro W0 hb
    have := ref_kinds (w := W0) (q := p.q) (n := p.n) (vc := vc) Ab p.body.length cb (Kd.C_below hp.v hb) (by omega) 1
    rw [← hK] at this
    exact this
  replace hK := Lib.hid hK
  have wt : IntKind.u64.wrap (tape.length : Int) = tape.length := IntWalk.u64_in _ (by omega)
  have HP := Lib.hid hp
  have HI := Lib.hid hi
  have HT := Lib.hid ht
  have hvec := Lib.hid hio.vec
  clear hKl
  have ht0h := Lib.hid ht0
  have HFM := Lib.hid hFM
  have hEh := Lib.hid hE
  clear hp hi ht hF hio ht0 hFM hE
  go_enter Tryz.func11, Tryz.ntmps11
  unfold progV
  go_wp2_with (first
    | (at_make; refine wpList_make_full _ rfl _ _ 47 rfl w.heap.size 56 j0 (.int .u64 0) 1 Tryz.underlying47 hj0 jz0 jz1 .i64 .i64 _ _ mem rfl rfl rfl rfl (by rw [jz2]; omega) (by unfold maxLen; omega) (by rw [← hW]; exact hb0.size) ?_; intro w1 hown1 hgrow1; rw [made_words] at hown1; rw [← hW] at hown1 hgrow1 ⊢; obtain ⟨g, hg⟩ : ∃ g, g = W.heap.size := ⟨_, rfl⟩; rw [← hg] at hown1 ⊢; simp only [← hkp]; have M0 : MB w w1 kp g mem p Va Ab vc cb (List.replicate mem 0) := ⟨below_blk (below_grown0 hgrow1) P0 (blk_lt P0), hown1, hb0.trans (lower_below (below_grown0 hgrow1) hb0.size)⟩; obtain ⟨x0, s0, y0⟩ := M0.word (j := 0) (by omega); have M1 := M0.set 0 (tape.length : Int); obtain ⟨p0, p1, p2, p3⟩ := M1.p.cells; clear hown1 hgrow1 hg hW hkp hb0 P0)
    | (go_at_call 33; refine (HK _ M1.b).mono ?_; rintro e w2 ⟨vk, rfl, hok, hb2⟩; obtain ⟨ka, kc, rfl⟩ := own_slice hok; have M2 := M1.below hb2; clear p0 p1 p2 p3 s0 y0 M0 M1 hb2))
  obtain ⟨S1, hS1⟩ : ∃ S1, S1 = Al.setRows p ((List.replicate mem 0).set 0 (tape.length : Int)) K ins := ⟨_, rfl⟩
  have HFM2 := show FM = _ from HFM
  rw [show ((mem : Int).toNat) = mem from rfl, ← hS1] at HFM2
  have HFM3 := Lib.hid HFM2
  obtain ⟨bk, hbk⟩ : ∃ bk, bk = (w1.setCell ⟨g, 0, none⟩ (.int .u64 (tape.length : Int))).heap.size := ⟨_, rfl⟩
  rw [← hbk] at hok
  have HH : Hid (MB w w2 kp g mem p Va Ab vc cb ((List.replicate mem 0).set 0 (tape.length : Int)) ∧ w2.ownsRow bk 3 1 (.slice ka K.length kc) K.length (intsV K)) := Lib.hid ⟨M2, hok⟩
  replace hS1 := Lib.hid hS1
  clear M2 hok hbk HFM HFM2 HK wt
  go_loopg [11, 12] (K.length + 1) (fun gk v11 v12 w' => ∃ i : Nat, v11 = .int .i64 i ∧ i + gk = K.length + 1 ∧ i ≤ K.length ∧ ∃ mc : List Int, Hid (S1 = Al.setRows p mc (K.drop i) (ins.drop i)) ∧ Hid (MB w w' kp g mem p Va Ab vc cb mc ∧ w'.ownsRow bk 3 1 (.slice ka K.length kc) K.length (intsV K)))
  case atStart => exact ⟨0, rfl, by omega, by omega, _, Lib.hid (show S1 = _ from hS1), HH⟩
  case round =>
    obtain ⟨i, rfl, hg, hi2, mc, HS, HM⟩ := hrel
    have hS := show S1 = Al.setRows p mc (K.drop i) (ins.drop i) from HS
    obtain ⟨M2, hok⟩ := show MB w wr kp g mem p Va Ab vc cb mc ∧ wr.ownsRow bk 3 1 (.slice ka K.length kc) K.length (intsV K) from HM
    clear HH HS HM
    by_cases hil : i < K.length
    · obtain ⟨k1, rfl⟩ : ∃ k1, gk = k1 + 1 := ⟨gk - 1, by omega⟩
      have hii : i < ins.length := by have := show K.length = ins.length from hKlH; omega
      obtain ⟨ad, A0, c0, rfl, d0, l0, g0⟩ := at_L4 (show Kd.C (Kd.slice 3 (Kd.int .i64)) w Ia ins.length ins from HI) (i : Int) (by omega) (by omega)
      simp only [Int.toNat_natCast] at d0
      have hx0 : rd_L4 ins (i : Int) = ins[i] := by unfold rd_L4; simp [List.getD_eq_getElem?_getD, hii]
      rw [hx0] at d0 l0 g0
      rw [List.drop_eq_getElem_cons hil, List.drop_eq_getElem_cons hii] at hS
      unfold Al.setRows at hS
      have hv := (show ∀ (a : List Int), a ∈ ins → ↑a.length = p.n ∧ ∀ (x : Int), x ∈ a → 0 ≤ x ∧ x < p.q from hvec) ins[i] (List.getElem_mem hii)
      obtain ⟨a, ha⟩ : ∃ a, a = ins[i] := ⟨_, rfl⟩
      rw [← ha] at d0 l0 g0 hS hv
      clear ha hx0
      obtain ⟨gi, hka, dk⟩ := ints_get (own_ints hok) hil
      have hkr := hKr i hil
      obtain ⟨kv, hkv⟩ : ∃ kv, kv = K[i] := ⟨_, rfl⟩
      rw [← hkv] at dk hkr hS
      have hkvH := Lib.hid hkv
      clear hkv
      have hpn : kv * p.n + p.n ≤ p.vars.length * p.n := by
        have h : (kv + 1) * p.n ≤ (p.vars.length : Int) * p.n := Int.mul_le_mul_of_nonneg_right (by omega) (by omega)
        rw [Int.add_mul, Int.one_mul] at h
        exact h
      have hkn0 : 0 ≤ kv * p.n := Int.mul_nonneg (by omega) (by omega)
      obtain ⟨pl, hpl⟩ : ∃ pl : Nat, (pl : Int) = Al.placeF p kv := ⟨(Al.placeF p kv).toNat, by have : Al.placeF p kv = 2 + kv * p.n := rfl; omega⟩
      have hplv : Al.placeF p kv = 2 + kv * p.n := rfl
      have hplb : (pl : Int) + p.n + 4096 ≤ mem := by have := show Al.endF p = _ from hEh; omega
      have hlen : (a.length : Int) = p.n := hv.1
      have hlenH := Lib.hid hlen
      have hax := Lib.hid hv.2
      have hS' : S1 = Al.setRows p (Al.setRow mc pl a) (K.drop (i + 1)) (ins.drop (i + 1)) := by rw [hS, ← hpl]; rfl
      replace hS' := Lib.hid hS'
      have HPl := fun w0 => ref_place w0 p Va Ab vc cb kv (by omega) (by omega)
      unfold progV at HPl
      rw [← hpl] at HPl
      clear hpn hkn0 hplv hS hv hpl
      have r0 : (0 : Int) ≤ (i : Int) := by omega
      have r1 : (i : Int) < (K.length : Int) := by omega
      have r2 : decide ((i : Int) < (K.length : Int)) = true := decide_eq_true r1
      obtain ⟨row1, hrow1⟩ : ∃ row1, row1 = Al.setRow mc pl a := ⟨_, rfl⟩
      have hS2 := show S1 = Al.setRows p (Al.setRow mc pl a) (K.drop (i + 1)) (ins.drop (i + 1)) from hS'
      rw [← hrow1] at hS2
      replace hS2 := Lib.hid hS2
      replace hrow1 := Lib.hid hrow1
      have dI := Lib.hid d0
      have gI := Lib.hid g0
      have hkaH := Lib.hid hka
      have HH : Hid (MB w wr kp g mem p Va Ab vc cb mc ∧ wr.ownsRow bk 3 1 (.slice ka K.length kc) K.length (intsV K)) := Lib.hid ⟨M2, hok⟩
      clear d0 g0 hka dk M2 hok hS' hlen
      go_wp2_with fail
      go_loopg [12] (a.length + 1) (fun gk2 v12 w' => ∃ k : Nat, v12 = .int .i64 k ∧ k + gk2 = a.length + 1 ∧ k ≤ a.length ∧ ∃ mk : List Int, Hid (row1 = Al.setRow mk (pl + k) (a.drop k)) ∧ Hid (MB w w' kp g mem p Va Ab vc cb mk ∧ w'.ownsRow bk 3 1 (.slice ka K.length kc) K.length (intsV K)))
      case atStart => exact ⟨0, rfl, by omega, by omega, mc, Lib.hid (show row1 = _ from hrow1), HH⟩
      case round =>
        obtain ⟨k, rfl, hg2, hk2, mk, HR, HM⟩ := hrel
        have hrw := show row1 = Al.setRow mk (pl + k) (a.drop k) from HR
        obtain ⟨M2, hok⟩ := show MB w wr kp g mem p Va Ab vc cb mk ∧ wr.ownsRow bk 3 1 (.slice ka K.length kc) K.length (intsV K) from HM
        clear HH HR HM
        have hlen := show (a.length : Int) = p.n from hlenH
        obtain ⟨p0, p1, p2, p3⟩ := M2.p.cells
        by_cases hkl : k < a.length
        · obtain ⟨k3, rfl⟩ : ∃ k3, gk = k3 + 1 := ⟨gk - 1, by omega⟩
          rw [setRow_step hkl] at hrw
          obtain ⟨ad0, hA0, c0'⟩ := intsC_get (show (Kd.int .i64).C w A0 a.length a from gI) hkl hkl
          have hx := (show ∀ (x : Int), x ∈ a → 0 ≤ x ∧ x < p.q from hax) a[k] (List.getElem_mem hkl)
          obtain ⟨x, hxe⟩ : ∃ x, x = a[k] := ⟨_, rfl⟩
          rw [← hxe] at c0' hrw hx
          subst hA0
          clear hxe
          replace c0' := cell_since M2.b c0'
          have d0 := cell_since M2.b (show w.cell? (ad.add i) = _ from dI)
          obtain ⟨gi, hka, dk⟩ := ints_get (own_ints hok) hil
          subst hka
          have hkv2 : K[i] = kv := (show kv = K[i] from hkvH).symm
          rw [hkv2] at dk
          obtain ⟨xo, s0, y0⟩ := M2.word (j := pl + k) (by omega)
          have n1 : g ≠ kp := Ne.symm M2.ne
          have n2 : g ≠ gi := fun e => by
            obtain ⟨c1, hc1⟩ := own_type M2.m rfl
            exact own_ne_blk hok hc1 (by decide) (by rw [e]; rfl)
          have hadb : (ad.add i).block < w.heap.size := cell_lt (show w.cell? (ad.add i) = _ from dI)
          have had0 : (ad0.add k).block < w.heap.size := cell_lt (intsC_cell (show (Kd.int .i64).C w (some ad0) a.length a from gI) hkl rfl)
          have hgb : w.heap.size ≤ g := (word_set M2.m 0 0).2
          have n3 : g ≠ (ad.add i).block := by omega
          have n4 : g ≠ (ad0.add k).block := by omega
          have M2d := M2.drew
          have hokd := hok.drew
          have wx : IntKind.u64.wrap x = x := IntWalk.u64_in _ (by omega)
          have wpk : IntKind.i64.wrap ((pl : Int) + (k : Int)) = (pl : Int) + (k : Int) := IntWalk.i64_in _ (by omega)
          have q0 : (0 : Int) ≤ (k : Int) := by omega
          have q1 : (k : Int) < (a.length : Int) := by omega
          have q2 : decide ((k : Int) < p.n) = true := decide_eq_true (by omega)
          have q3 : (0 : Int) ≤ (pl : Int) + (k : Int) := by omega
          have q4 : (pl : Int) + (k : Int) < (mem : Int) := by omega
          have q5 : ((pl : Int) + (k : Int)).toNat = pl + k := by omega
          clear hlen
          have HH2 : Hid (MB w wr kp g mem p Va Ab vc cb mk ∧ wr.ownsRow bk 3 1 (.slice (some ⟨gi, 0, none⟩) K.length kc) K.length (intsV K)) := Lib.hid ⟨M2, hok⟩
          go_wp2_with fail
          go_region_held3 (fun w' => w'.cell? ⟨kp, 0, none⟩ = some (.int .i64 p.q) ∧ w'.cell? ⟨kp, 1, none⟩ = some (.int .i64 p.n) ∧ w'.cell? ⟨kp, 2, none⟩ = some (.slice Va p.vars.length vc) ∧ w'.cell? ⟨kp, 3, none⟩ = some (.slice Ab p.body.length cb) ∧ w'.cell? ⟨gi, i, none⟩ = some (.int .i64 kv) ∧ w'.cell? (ad.add i) = some (.slice (some ad0) a.length c0) ∧ w'.cell? (ad0.add k) = some (.int .i64 x)) (first | (refine ⟨?_, ?_, ?_, ?_, ?_, ?_, ?_⟩ <;> assumption) | (refine ⟨?_, ?_, ?_, ?_, ?_, ?_, ?_⟩ <;> first | (rw [World.cell?_setCell_far _ _ _ _ n1]; assumption) | (rw [World.cell?_setCell_far _ _ _ _ n2]; assumption) | (rw [World.cell?_setCell_far _ _ _ _ n3]; assumption) | (rw [World.cell?_setCell_far _ _ _ _ n4]; assumption)) | go_keep) (first
            | (go_at_call 27; refine (HPl _).mono ?_; rintro e w2 ⟨rfl, hb2⟩; replace hb2 := undrew hb2; have M3 := M2.below hb2; have hok3 := own_of hok fun k hk => hb2.block k (hok.lt k hk).2; obtain ⟨e0, e1, e2, e3⟩ := M3.p.cells; have e4 := cell_since hb2 dk; have e5 := cell_since hb2 d0; have e6 := cell_since hb2 c0'; have e7 := cell_since hb2 s0; have e8 := frozen_since hb2 s0 y0))
          obtain ⟨W4, hW4⟩ : ∃ W4, W4 = w2.setCell ⟨g, pl + k, none⟩ (.int .u64 x) := ⟨_, rfl⟩
          have HN : Hid (row1 = Al.setRow (mk.set (pl + k) x) (pl + (k + 1)) (a.drop (k + 1))) := Lib.hid hrw
          have HN2 : Hid (MB w W4 kp g mem p Va Ab vc cb (mk.set (pl + k) x) ∧ W4.ownsRow bk 3 1 (.slice (some ⟨gi, 0, none⟩) K.length kc) K.length (intsV K)) := by rw [hW4]; exact Lib.hid ⟨M3.set _ _, M3.keep hok3 (by decide) _ _⟩
          rw [← hW4]
          clear hW4 hrw M3 M2 hok hok3 e0 e1 e2 e3 e4 e5 e6 e7 e8 p0 p1 p2 p3 d0 c0' dk s0 y0 hb2 HH2 M2d hokd
          go_wp2_with fail
          go_roundg k3
          case measure => omega
          case rel => exact ⟨k + 1, by simp, by omega, by omega, _, HN, HN2⟩
        · have hke : k = a.length := by omega
          have q2 : decide ((k : Int) < p.n) = false := decide_eq_false (by omega)
          rw [hke, List.drop_length] at hrw
          have hmk : mk = row1 := hrw.symm
          have HN : Hid (MB w wr kp g mem p Va Ab vc cb mk ∧ wr.ownsRow bk 3 1 (.slice ka K.length kc) K.length (intsV K)) := Lib.hid ⟨M2, hok⟩
          have HS3 : Hid (S1 = Al.setRows p mk (K.drop (i + 1)) (ins.drop (i + 1))) := by rw [hmk]; exact hS2
          clear hmk hrw M2 hok hke hlen
          go_wp2_with fail
          go_roundg k1
          case measure => omega
          case rel => exact ⟨i + 1, by simp, by omega, by omega, mk, HS3, HN⟩
    · obtain rfl : i = K.length := by omega
      have t1 : decide ((K.length : Int) < (K.length : Int)) = false := by simp
      rw [List.drop_length] at hS
      have hS2 : S1 = mc := by rw [hS]; unfold Al.setRows; rfl
      have hFM := show FM = Al.setRow S1 (Al.endF p).toNat tape from HFM3
      rw [hS2] at hFM
      obtain ⟨en, hen⟩ : ∃ en : Nat, (en : Int) = Al.endF p := ⟨(Al.endF p).toNat, by have := show Al.endF p = _ from hEh; omega⟩
      have hen2 : (Al.endF p).toNat = en := by omega
      rw [hen2] at hFM
      have hEb : (en : Int) + 4096 ≤ mem := by omega
      have HTp := fun w0 => ref_tape w0 p Va Ab vc cb (by omega) (by omega)
      unfold progV at HTp
      rw [← hen] at HTp
      have HFI := Lib.hid hFM
      have HH : Hid (MB w wr kp g mem p Va Ab vc cb mc ∧ wr.ownsRow bk 3 1 (.slice ka K.length kc) K.length (intsV K)) := Lib.hid ⟨M2, hok⟩
      clear hFM hen hen2 hS2 hS M2 hok
      go_wp2_with fail
      go_loopg [13] (tape.length + 1) (fun gk v13 w' => ∃ k : Nat, v13 = .int .i64 k ∧ k + gk = tape.length + 1 ∧ k ≤ tape.length ∧ ∃ mk : List Int, Hid (FM = Al.setRow mk (en + k) (tape.drop k)) ∧ Hid (MB w w' kp g mem p Va Ab vc cb mk ∧ w'.ownsRow bk 3 1 (.slice ka K.length kc) K.length (intsV K)))
      case atStart => exact ⟨0, rfl, by omega, by omega, mc, Lib.hid (show FM = _ from HFI), HH⟩
      case round =>
        obtain ⟨k, rfl, hg2, hk2, mk, HR, HM⟩ := hrel
        have hrw := show FM = Al.setRow mk (en + k) (tape.drop k) from HR
        obtain ⟨M2, hok⟩ := show MB w wr kp g mem p Va Ab vc cb mk ∧ wr.ownsRow bk 3 1 (.slice ka K.length kc) K.length (intsV K) from HM
        clear HH HR HM
        obtain ⟨p0, p1, p2, p3⟩ := M2.p.cells
        by_cases hkl : k < tape.length
        · obtain ⟨k3, rfl⟩ : ∃ k3, gk = k3 + 1 := ⟨gk - 1, by omega⟩
          rw [setRow_step hkl] at hrw
          obtain ⟨ad0, rfl, c0'⟩ := intsC_get (show (Kd.int .u32).C w Ta tape.length tape from HT) hkl hkl
          have had0 : (ad0.add k).block < w.heap.size := cell_lt c0'
          have hx := (show ∀ (x : Int), x ∈ tape → 0 ≤ x ∧ x < 4294967296 from ht0h) tape[k] (List.getElem_mem hkl)
          obtain ⟨x, hxe⟩ : ∃ x, x = tape[k] := ⟨_, rfl⟩
          rw [← hxe] at c0' hrw hx
          clear hxe
          replace c0' := cell_since M2.b c0'
          obtain ⟨xo, s0, y0⟩ := M2.word (j := en + k) (by omega)
          have n1 : g ≠ kp := Ne.symm M2.ne
          have hgb : w.heap.size ≤ g := (word_set M2.m 0 0).2
          have n4 : g ≠ (ad0.add k).block := by omega
          have wx : IntKind.u64.wrap x = x := IntWalk.u64_in _ (by omega)
          have wpk : IntKind.i64.wrap ((en : Int) + (k : Int)) = (en : Int) + (k : Int) := IntWalk.i64_in _ (by omega)
          have q0 : (0 : Int) ≤ (k : Int) := by omega
          have q1 : (k : Int) < (tape.length : Int) := by omega
          have q2 : decide ((k : Int) < (tape.length : Int)) = true := decide_eq_true q1
          have q3 : (0 : Int) ≤ (en : Int) + (k : Int) := by omega
          have q4 : (en : Int) + (k : Int) < (mem : Int) := by omega
          have q5 : ((en : Int) + (k : Int)).toNat = en + k := by omega
          go_wp2_with fail
          go_region_held3 (fun w' => w'.cell? ⟨kp, 0, none⟩ = some (.int .i64 p.q) ∧ w'.cell? ⟨kp, 1, none⟩ = some (.int .i64 p.n) ∧ w'.cell? ⟨kp, 2, none⟩ = some (.slice Va p.vars.length vc) ∧ w'.cell? ⟨kp, 3, none⟩ = some (.slice Ab p.body.length cb) ∧ w'.cell? (ad0.add k) = some (.int .u32 x)) (first | (refine ⟨?_, ?_, ?_, ?_, ?_⟩ <;> assumption) | (refine ⟨?_, ?_, ?_, ?_, ?_⟩ <;> first | (rw [World.cell?_setCell_far _ _ _ _ n1]; assumption) | (rw [World.cell?_setCell_far _ _ _ _ n4]; assumption)) | go_keep) (first
            | (go_at_call 24; refine (HTp _).mono ?_; rintro e w2 ⟨rfl, hb2⟩; replace hb2 := undrew hb2; have M3 := M2.below hb2; have hok3 := own_of hok fun k hk => hb2.block k (hok.lt k hk).2; obtain ⟨e0, e1, e2, e3⟩ := M3.p.cells; have e6 := cell_since hb2 c0'; have e7 := cell_since hb2 s0; have e8 := frozen_since hb2 s0 y0))
          obtain ⟨W4, hW4⟩ : ∃ W4, W4 = w2.setCell ⟨g, en + k, none⟩ (.int .u64 x) := ⟨_, rfl⟩
          have HN : Hid (FM = Al.setRow (mk.set (en + k) x) (en + (k + 1)) (tape.drop (k + 1))) := Lib.hid hrw
          have HN2 : Hid (MB w W4 kp g mem p Va Ab vc cb (mk.set (en + k) x) ∧ W4.ownsRow bk 3 1 (.slice ka K.length kc) K.length (intsV K)) := by rw [hW4]; exact Lib.hid ⟨M3.set _ _, M3.keep hok3 (by decide) _ _⟩
          rw [← hW4]
          clear hW4 hrw M3 M2 hok hok3 e0 e1 e2 e3 e6 e7 e8 p0 p1 p2 p3 c0' s0 y0 hb2
          go_wp2_with fail
          go_roundg k3
          case measure => omega
          case rel => exact ⟨k + 1, by simp, by omega, by omega, _, HN, HN2⟩
        · obtain rfl : k = tape.length := by omega
          have q2 : decide ((tape.length : Int) < (tape.length : Int)) = false := decide_eq_false (by omega)
          rw [List.drop_length] at hrw
          have hmk : mk = FM := hrw.symm
          have hm := M2.m
          have hb := M2.b
          rw [hmk] at hm
          clear hmk hrw M2 hok
          go_wp2_with fail
          exact bodyPost_ret (v := .slice (some ⟨g, 0, none⟩) mem mem) (by simp [results, Tryz.results11, go_sem]) rfl ⟨_, rfl, hm, hb⟩
end Go.Proofs.YtkplfaionpplaaaGreatDoor
namespace Go.Proofs.YtkplfaionpplaaaGreatDoor
open Go.RowKit Go.Proofs.YtkplfaionpplaaaGreatDoorW.PrintWords
mutual
theorem depthS_lt : ∀ (s : Al.Stmt), Al.depthS s + 1 ≤ (Al.flatS s).length
  | ⟨op, d, a, b, c, k, body, els⟩ => by
    have h1 := depthL_lt body
    have h2 := depthL_lt els
    simp only [Al.depthS, Al.flatS, List.length_cons, List.length_append]
    omega
theorem depthL_lt : ∀ (l : List Al.Stmt), Al.depthL l + 1 ≤ (Al.flatL l).length
  | [] => by simp [Al.depthL, Al.flatL]
  | s :: l => by
    have h1 := depthS_lt s
    have h2 := depthL_lt l
    simp only [Al.depthL, Al.flatL, List.length_append]
    omega
end
theorem stmt_len (s : Al.Stmt) (x6 x7 : Value) : (stmtV s x6 x7).toList.length = 8 := rfl
theorem cellsS_at {W0 : World} : ∀ {L : List Al.Stmt} {cs : List Value} {i : Nat} (h : CellsS W0 L cs) (hi : i < L.length), ∃ A6 c6 A7 c7, (L[i]).body.length ≤ c6 ∧ kStmt.C W0 A6 (L[i]).body.length (L[i]).body ∧ (L[i]).els.length ≤ c7 ∧ kStmt.C W0 A7 (L[i]).els.length (L[i]).els ∧
    ∀ j, j < 8 → cs[i * 8 + j]? = (stmtV L[i] (.slice A6 (L[i]).body.length c6) (.slice A7 (L[i]).els.length c7)).toList[j]?
  | [], cs, i, h, hi => by simp at hi
  | s :: l, cs, 0, h, hi => by
    obtain ⟨A6, c6, A7, c7, cs', l6, g6, l7, g7, rfl, hr⟩ := h
    refine ⟨A6, c6, A7, c7, l6, g6, l7, g7, fun j hj => ?_⟩
    rw [Nat.zero_mul, Nat.zero_add, List.getElem?_append_left (by rw [stmt_len]; omega)]
    rfl
  | s :: l, cs, i + 1, h, hi => by
    obtain ⟨A6, c6, A7, c7, cs', l6, g6, l7, g7, rfl, hr⟩ := h
    obtain ⟨B6, e6, B7, e7, k6, m6, k7, m7, hc⟩ := cellsS_at hr (show i < l.length by simpa using hi)
    refine ⟨B6, e6, B7, e7, k6, m6, k7, m7, fun j hj => ?_⟩
    have e : (i + 1) * 8 + j = 8 + (i * 8 + j) := by omega
    rw [e, List.getElem?_append_right (by rw [stmt_len]; omega), stmt_len, Nat.add_sub_cancel_left]
    exact hc j hj
theorem rowS_get {W0 w : World} {base : Nat} {a : Option Addr} {cap : Nat} {L : List Al.Stmt} (h : RowS W0 w base (.slice a L.length cap) L) {i : Nat} (hi : i < L.length) :
    ∃ g A6 c6 A7 c7, a = some ⟨g, 0, none⟩ ∧ (L[i]).body.length ≤ c6 ∧ kStmt.C W0 A6 (L[i]).body.length (L[i]).body ∧ (L[i]).els.length ≤ c7 ∧ kStmt.C W0 A7 (L[i]).els.length (L[i]).els ∧
      w.cell? ⟨g, i * 8, none⟩ = some (.int .i64 (L[i]).op) ∧ w.cell? ⟨g, i * 8 + 1, none⟩ = some (.int .i64 (L[i]).d) ∧ w.cell? ⟨g, i * 8 + 2, none⟩ = some (.int .i64 (L[i]).a) ∧ w.cell? ⟨g, i * 8 + 3, none⟩ = some (.int .i64 (L[i]).b) ∧
      w.cell? ⟨g, i * 8 + 4, none⟩ = some (.int .i64 (L[i]).c) ∧ w.cell? ⟨g, i * 8 + 5, none⟩ = some (.int .i64 (L[i]).k) ∧ w.cell? ⟨g, i * 8 + 6, none⟩ = some (.slice A6 (L[i]).body.length c6) ∧ w.cell? ⟨g, i * 8 + 7, none⟩ = some (.slice A7 (L[i]).els.length c7) := by
  obtain ⟨cs, ho, hc⟩ := h
  obtain ⟨A6, c6, A7, c7, l6, g6, l7, g7, hat⟩ := cellsS_at hc hi
  obtain ⟨g, c, hv, hgb, hgl⟩ := ho.form (by omega)
  simp only [Value.slice.injEq] at hv
  have hl : cs.length = L.length * 8 := ho.1
  obtain ⟨rfl, -, rfl⟩ := hv
  have f : ∀ j, j < 8 → w.cell? ⟨g, i * 8 + j, none⟩ = (stmtV L[i] (.slice A6 (L[i]).body.length c6) (.slice A7 (L[i]).els.length c7)).toList[j]? := fun j hj => by rw [ho.cellAt _ (by omega), hat j hj]
  exact ⟨g, A6, c6, A7, c7, rfl, l6, g6, l7, g7, f 0 (by omega), f 1 (by omega), f 2 (by omega), f 3 (by omega), f 4 (by omega), f 5 (by omega), f 6 (by omega), f 7 (by omega)⟩
theorem rowS_slice {W0 w : World} {base : Nat} {v : Value} {L : List Al.Stmt} (h : RowS W0 w base v L) : ∃ a c, v = .slice a L.length c := by
  obtain ⟨cs, ho, _⟩ := h
  exact own_slice ho
structure VB (w : World) (kp kr : Nat) (p : Al.Prog) (Va Ab : Option Addr) (vc cb : Nat) : Prop where
  p : PBox w kp p Va Ab vc cb
  r : w.heap[kr]? = some (.cells #[.int .i64 0, .bool false, .int .i64 0] 36 (0, 0))
theorem VB.below {w w' : World} {kp kr : Nat} {p : Al.Prog} {Va Ab : Option Addr} {vc cb : Nat} (h : VB w kp kr p Va Ab vc cb) (hb : Below w.heap.size w w') : VB w' kp kr p Va Ab vc cb := ⟨below_blk hb h.p (blk_lt h.p), below_blk hb h.r (blk_lt h.r)⟩
theorem VB.facts {w : World} {kp kr : Nat} {p : Al.Prog} {Va Ab : Option Addr} {vc cb : Nat} (h : VB w kp kr p Va Ab vc cb) : w.cell? ⟨kr, 0, none⟩ = some (.int .i64 0) ∧ w.cell? ⟨kr, 1, none⟩ = some (.bool false) ∧ w.cell? ⟨kr, 2, none⟩ = some (.int .i64 0) ∧ w.frozen? ⟨kr, 0, none⟩ = false ∧ w.frozen? ⟨kr, 1, none⟩ = false ∧ w.frozen? ⟨kr, 2, none⟩ = false :=
  ⟨(cell_blk h.r _).trans rfl, (cell_blk h.r _).trans rfl, (cell_blk h.r _).trans rfl, frozen_blk h.r _, frozen_blk h.r _, frozen_blk h.r _⟩
set_option maxRecDepth 100000 in
set_option maxHeartbeats 6400000 in
theorem ref_valid {w : World} {p : Al.Prog} {Va Ab : Option Addr} {vc cb : Nat} (hp : PLies w p Va Ab vc cb) (hfl : (Al.flatL p.body).length ≤ 100) (hvl0 : p.vars.length ≤ 1000) :
    Calls Tryz.prog 49 #[progV p Va Ab vc cb] w fun e w' => e = .returned (faultV (Al.validF p)) ∧ Below w.heap.size w w' := by
  obtain ⟨R, hR⟩ : ∃ R, R = Al.validF p := ⟨_, rfl⟩
  rw [← hR]
  obtain ⟨W, hW⟩ : ∃ W, W = (w.alloc (.cells #[.int .i64 p.q, .int .i64 p.n, .slice Va p.vars.length vc, .slice Ab p.body.length cb] 27)).alloc (.cells #[.int .i64 0, .bool false, .int .i64 0] 36) := ⟨_, rfl⟩
  have hb0 : Below w.heap.size w W := by rw [hW]; exact alloc_two _ _ _
  obtain ⟨kp, hkp⟩ : ∃ kp, kp = w.heap.size := ⟨_, rfl⟩
  have V0 : VB W kp (kp + 1) p Va Ab vc cb := by rw [hW, hkp]; exact ⟨alloc_blk _ (heap_alloc_new w _), alloc_at _ _ _⟩
  have HRg := ref_ring W p.q p.n
  have hdl := depthL_lt p.body
  have HFl := fun W0 hb => flat_all (W0 := w) 101 p.body Ab cb (by omega) hp.b (by omega) W0 hb
  have HDp := fun W0 hb => depth_all (W0 := w) 101 (by omega) p.body Ab cb (by omega) hp.b (by omega) W0 hb
  have hdge := depthL_ge p.body
  unfold Al.validF at hR
  obtain ⟨p0, p1, p2, p3⟩ := V0.p.cells
  have HP := Lib.hid hp
  have hR' := Lib.hid hR
  clear hp hR hdl
  go_enter Tryz.func49, Tryz.ntmps49
  unfold progV
  go_wp2_with fail
  rw [← hW]
  simp only [← hkp]
  have hkr : w.heap.size ≤ kp + 1 := by rw [hkp]; omega
  replace hkp := Lib.hid hkp
  clear hW p0 p1 p2 p3
  cases hro : Al.ringOk p.q p.n with
  | false =>
    rw [hro] at HRg
    simp only [Bool.false_eq_true, if_false] at HRg
    have hRv := show R = _ from hR'
    rw [hro] at hRv
    replace hRv := Lib.hid (hRv.trans (if_pos rfl))
    go_wp2_with (first | (go_at_call 84; refine HRg.mono ?_; rintro e w1 ⟨rfl, hb1⟩; have V1 := V0.below hb1; have hbb := hb0.trans (lower_below hb1 hb0.size); obtain ⟨p0, p1, p2, p3⟩ := V1.p.cells) | (go_at_call 53; refine (bare_lit _ 101).mono ?_; rintro e w9 ⟨rfl, hb9⟩; have I9 := V1.below hb9; obtain ⟨z0, z1, z2, y0, y1, y2⟩ := I9.facts; have hb10 := hbb.trans (lower_below hb9 hbb.size); have F9 := set3 I9.r (.int .i64 101) (.bool false) (.int .i64 0)))
    refine gen_world (Q := fun W => bodyPost _ _ _ _ _ W) _ (fun W => W.heap[kp + 1]? = some (.cells #[.int .i64 101, .bool false, .int .i64 0] 36 (0, 0)) ∧ Below w.heap.size w W) ⟨F9, below_set3 hb10 hkr⟩ ?_
    clear F9 hb10 hb9 I9 z0 z1 z2 y0 y1 y2
    rintro W9 ⟨F, HB⟩
    have c0 : W9.cell? ⟨kp + 1, 0, none⟩ = some (.int .i64 101) := (cell_blk F _).trans rfl
    have c1 : W9.cell? ⟨kp + 1, 1, none⟩ = some (.bool false) := (cell_blk F _).trans rfl
    have c2 : W9.cell? ⟨kp + 1, 2, none⟩ = some (.int .i64 0) := (cell_blk F _).trans rfl
    exact bodyPost_ret (v := .agg #[.int .i64 101, .bool false, .int .i64 0]) (by simp [results, Tryz.results49, go_sem, c0, c1, c2]) rfl ⟨by rw [show R = _ from hRv]; rfl, HB⟩
  | true =>
    rw [hro] at HRg
    simp only [if_true] at HRg
    have hR1 := show R = _ from hR'
    rw [hro, if_neg (by decide)] at hR1
    have hq : 0 ≤ p.q ∧ p.q < 8388608 := by
      have h2 : Al.isPrime p.q = true := by (unfold Al.ringOk at hro; simp at hro; exact hro.1)
      have := Al.prime_facts h2; omega
    clear hro
    by_cases cv : (12 : Int) < p.vars.length
    · have t1 : decide ((12 : Int) < (p.vars.length : Int)) = true := decide_eq_true cv
      rw [if_pos (by omega)] at hR1
      have hRv := Lib.hid hR1
      clear hR1
      go_wp2_with (first | (go_at_call 84; refine HRg.mono ?_; rintro e w1 ⟨rfl, hb1⟩; have V1 := V0.below hb1; have hbb := hb0.trans (lower_below hb1 hb0.size); obtain ⟨p0, p1, p2, p3⟩ := V1.p.cells) | (go_at_call 53; refine (bare_lit _ 103).mono ?_; rintro e w9 ⟨rfl, hb9⟩; have I9 := V1.below hb9; obtain ⟨z0, z1, z2, y0, y1, y2⟩ := I9.facts; have hb10 := hbb.trans (lower_below hb9 hbb.size); have F9 := set3 I9.r (.int .i64 103) (.bool false) (.int .i64 0)))
      refine gen_world (Q := fun W => bodyPost _ _ _ _ _ W) _ (fun W => W.heap[kp + 1]? = some (.cells #[.int .i64 103, .bool false, .int .i64 0] 36 (0, 0)) ∧ Below w.heap.size w W) ⟨F9, below_set3 hb10 hkr⟩ ?_
      clear F9 hb10 hb9 I9 z0 z1 z2 y0 y1 y2
      rintro W9 ⟨F, HB⟩
      have c0 : W9.cell? ⟨kp + 1, 0, none⟩ = some (.int .i64 103) := (cell_blk F _).trans rfl
      have c1 : W9.cell? ⟨kp + 1, 1, none⟩ = some (.bool false) := (cell_blk F _).trans rfl
      have c2 : W9.cell? ⟨kp + 1, 2, none⟩ = some (.int .i64 0) := (cell_blk F _).trans rfl
      exact bodyPost_ret (v := .agg #[.int .i64 103, .bool false, .int .i64 0]) (by simp [results, Tryz.results49, go_sem, c0, c1, c2]) rfl ⟨by rw [show R = _ from hRv]; rfl, HB⟩
    have t1 : decide ((12 : Int) < (p.vars.length : Int)) = false := decide_eq_false cv
    rw [if_neg (by omega)] at hR1
    have hvl : p.vars.length ≤ 12 := by omega
    obtain ⟨FK, hFK⟩ : ∃ FK, FK = Al.firstK p.vars 0 := ⟨_, rfl⟩
    rw [← hFK] at hR1
    replace hR1 := Lib.hid hR1
    replace hFK := Lib.hid hFK
    go_wp2_with (first | (go_at_call 84; refine HRg.mono ?_; rintro e w1 ⟨rfl, hb1⟩; have V1 := V0.below hb1; have hbb := hb0.trans (lower_below hb1 hb0.size); obtain ⟨p0, p1, p2, p3⟩ := V1.p.cells))
    have HH : Hid (VB w1 kp (kp + 1) p Va Ab vc cb ∧ Below w.heap.size w w1) := Lib.hid ⟨V1, hbb⟩
    clear V1 hbb hb1 V0 hb0 HRg p0 p1 p2 p3
    go_loopg [4] (p.vars.length + 1) (fun gk v4 w' => ∃ i : Nat, v4 = .int .i64 i ∧ i + gk = p.vars.length + 1 ∧ i ≤ p.vars.length ∧ Hid (FK = Al.firstK (p.vars.drop i) i) ∧ Hid (VB w' kp (kp + 1) p Va Ab vc cb ∧ Below w.heap.size w w'))
    case atStart => exact ⟨0, rfl, by omega, by omega, Lib.hid (show FK = _ from hFK), HH⟩
    case round =>
      obtain ⟨i, rfl, hg, hi2, HF, HW⟩ := hrel
      have hF := show FK = Al.firstK (p.vars.drop i) i from HF
      obtain ⟨V1, hbb⟩ := show VB wr kp (kp + 1) p Va Ab vc cb ∧ Below w.heap.size w wr from HW
      clear HH HF HW
      obtain ⟨p0, p1, p2, p3⟩ := V1.p.cells
      by_cases hil : i < p.vars.length
      · obtain ⟨k1, rfl⟩ : ∃ k1, gk = k1 + 1 := ⟨gk - 1, by omega⟩
        obtain ⟨ad, hVa, d0, _⟩ := at_T901 (show PLies w p Va Ab vc cb from HP).v (i : Int) (by omega) (by omega)
        replace d0 := cell_since hbb d0
        rw [hVa] at p2
        replace hVa := Lib.hid hVa
        simp only [Int.toNat_natCast] at d0
        rw [List.drop_eq_getElem_cons hil] at hF
        unfold Al.firstK at hF
        rw [rd_var p.vars i hil] at d0
        obtain ⟨x, hx⟩ : ∃ x, x = (p.vars[i]).kind := ⟨_, rfl⟩
        rw [← hx] at d0 hF
        clear hx
        have HKd := ref_kind wr x
        have r0 : (0 : Int) ≤ (i : Int) := by omega
        have r1 : (i : Int) < (p.vars.length : Int) := by omega
        have r2 : decide ((i : Int) < (p.vars.length : Int)) = true := decide_eq_true r1
        by_cases hk : x = 1 ∨ x = 2 ∨ x = 3
        · rw [if_pos hk] at hF
          rw [decide_eq_true hk] at HKd
          have HF : Hid (FK = Al.firstK (p.vars.drop (i + 1)) ((i + 1 : Nat) : Int)) := Lib.hid (by rw [Int.natCast_add]; exact hF)
          have HH2 : Hid (VB wr kp (kp + 1) p Va Ab vc cb ∧ Below w.heap.size w wr) := Lib.hid ⟨V1, hbb⟩
          clear hF V1 hbb hk
          go_wp2_with (first | (go_at_call 85; refine HKd.mono ?_; rintro e w2 ⟨rfl, rfl⟩))
          go_roundg k1
          case measure => omega
          case rel => exact ⟨i + 1, by simp, by omega, by omega, HF, HH2⟩
        · rw [if_neg hk] at hF
          rw [decide_eq_false hk] at HKd
          have hRR := show R = _ from hR1
          rw [if_pos (by rw [hF]; show (101 : Int) ≠ 0; decide), hF] at hRR
          have hRv := Lib.hid hRR
          have HPl := fun w0 => placed_lit w0 101 (i : Int) (by decide)
          clear hRR hF hk
          go_wp2_with (first | (go_at_call 85; refine HKd.mono ?_; rintro e w2 ⟨rfl, rfl⟩) | (go_at_call 51; refine (HPl _).mono ?_; rintro e w9 ⟨rfl, hb9⟩; have I9 := V1.below hb9; obtain ⟨z0, z1, z2, y0, y1, y2⟩ := I9.facts; have hb10 := hbb.trans (lower_below hb9 hbb.size); have F9 := set3 I9.r (.int .i64 101) (.bool true) (.int .i64 i)))
          refine gen_world (Q := fun W => bodyPost _ _ _ _ _ W) _ (fun W => W.heap[kp + 1]? = some (.cells #[.int .i64 101, .bool true, .int .i64 i] 36 (0, 0)) ∧ Below w.heap.size w W) ⟨F9, below_set3 hb10 hkr⟩ ?_
          clear F9 hb10 hb9 I9 z0 z1 z2 y0 y1 y2
          rintro W9 ⟨F, HB⟩
          have c0 : W9.cell? ⟨kp + 1, 0, none⟩ = some (.int .i64 101) := (cell_blk F _).trans rfl
          have c1 : W9.cell? ⟨kp + 1, 1, none⟩ = some (.bool true) := (cell_blk F _).trans rfl
          have c2 : W9.cell? ⟨kp + 1, 2, none⟩ = some (.int .i64 i) := (cell_blk F _).trans rfl
          exact bodyPost_ret (v := .agg #[.int .i64 101, .bool true, .int .i64 i]) (by simp [results, Tryz.results49, go_sem, c0, c1, c2]) rfl ⟨by rw [show R = _ from hRv]; rfl, HB⟩
      · have hie : i = p.vars.length := by omega
        have t2 : decide ((i : Int) < (p.vars.length : Int)) = false := by simp; omega
        rw [hie, List.drop_length] at hF
        have hRR := show R = _ from hR1
        rw [if_neg (by rw [hF]; simp [Al.firstK, Al.Fault.fine])] at hRR
        clear hF
        obtain ⟨FL, hFL⟩ : ∃ FL, FL = Al.flatL p.body := ⟨_, rfl⟩
        have hfl2 : FL.length ≤ 100 := by rw [hFL]; exact hfl
        rw [← hFL] at hRR HFl
        obtain ⟨dp, hdp⟩ : ∃ dp, dp = Al.depthL p.body := ⟨_, rfl⟩
        rw [← hdp] at hRR HDp hdge
        clear hdp
        have hFLh := Lib.hid hFL
        clear hFL hfl
        have tl : decide ((100 : Int) < (FL.length : Int)) = false := decide_eq_false (by omega)
        by_cases cd : (6 : Int) < dp
        · rw [if_pos (.inr (by omega))] at hRR
          have hRv := Lib.hid hRR
          have td : decide ((6 : Int) < dp) = true := decide_eq_true cd
          clear hRR
          go_wp2_with (first | (go_at_call 20; refine (HFl _ hbb).mono ?_; rintro e w3 ⟨vf, rfl, hrow, hb2⟩; obtain ⟨fa, fc, rfl⟩ := rowS_slice hrow; have V3 := V1.below hb2; have hb3 := hbb.trans (lower_below hb2 hbb.size); have q3 := V3.p.cells.2.2.2) | (go_at_call 86; refine (HDp _ hb3).mono ?_; rintro e w5 ⟨rfl, hb4⟩; have V5 := V3.below hb4; have hb5 := hb3.trans (lower_below hb4 hb3.size); have hrow5 := hrow.below hb4) | (go_at_call 53; refine (bare_lit _ 103).mono ?_; rintro e w9 ⟨rfl, hb9⟩; have I9 := V5.below hb9; obtain ⟨z0, z1, z2, y0, y1, y2⟩ := I9.facts; have hb10 := hb5.trans (lower_below hb9 hb5.size); have F9 := set3 I9.r (.int .i64 103) (.bool false) (.int .i64 0)))
          refine gen_world (Q := fun W => bodyPost _ _ _ _ _ W) _ (fun W => W.heap[kp + 1]? = some (.cells #[.int .i64 103, .bool false, .int .i64 0] 36 (0, 0)) ∧ Below w.heap.size w W) ⟨F9, below_set3 hb10 hkr⟩ ?_
          clear F9 hb10 hb9 I9 z0 z1 z2 y0 y1 y2
          rintro W9 ⟨F, HB⟩
          have c0 : W9.cell? ⟨kp + 1, 0, none⟩ = some (.int .i64 103) := (cell_blk F _).trans rfl
          have c1 : W9.cell? ⟨kp + 1, 1, none⟩ = some (.bool false) := (cell_blk F _).trans rfl
          have c2 : W9.cell? ⟨kp + 1, 2, none⟩ = some (.int .i64 0) := (cell_blk F _).trans rfl
          exact bodyPost_ret (v := .agg #[.int .i64 103, .bool false, .int .i64 0]) (by simp [results, Tryz.results49, go_sem, c0, c1, c2]) rfl ⟨by rw [show R = _ from hRv]; rfl, HB⟩
        have td : decide ((6 : Int) < dp) = false := decide_eq_false cd
        rw [if_neg (by omega)] at hRR
        obtain ⟨FF, hFF⟩ : ∃ FF, FF = Al.firstF (Al.oneF p.q p.vars) FL 0 := ⟨_, rfl⟩
        rw [← hFF] at hRR
        have hRv := Lib.hid hRR
        replace hFF := Lib.hid hFF
        clear hRR
        go_wp2_with (first | (go_at_call 20; refine (HFl _ hbb).mono ?_; rintro e w3 ⟨vf, rfl, hrow, hb2⟩; obtain ⟨fa, fc, rfl⟩ := rowS_slice hrow; have V3 := V1.below hb2; have hb3 := hbb.trans (lower_below hb2 hbb.size); have q3 := V3.p.cells.2.2.2) | (go_at_call 86; refine (HDp _ hb3).mono ?_; rintro e w5 ⟨rfl, hb4⟩; have V5 := V3.below hb4; have hb5 := hb3.trans (lower_below hb4 hb3.size); have hrow5 := hrow.below hb4))
        have HH : Hid (VB w5 kp (kp + 1) p Va Ab vc cb ∧ Below w.heap.size w w5 ∧ RowS w w5 wr.heap.size (.slice fa FL.length fc) FL) := Lib.hid ⟨V5, hb5, hrow5⟩
        obtain ⟨rb, hrb⟩ : ∃ rb, rb = wr.heap.size := ⟨_, rfl⟩
        rw [← hrb] at HH
        clear hrb V5 hb5 hrow5 V1 hbb p0 p1 p2 p3 q3 HDp HFl V3 hb3 hrow hb2 hb4
        go_loopg [6, 7] (FL.length + 1) (fun gk v6 v7 w' => ∃ i : Nat, v6 = .int .i64 i ∧ i + gk = FL.length + 1 ∧ i ≤ FL.length ∧ Hid (FF = Al.firstF (Al.oneF p.q p.vars) (FL.drop i) i) ∧ Hid (VB w' kp (kp + 1) p Va Ab vc cb ∧ Below w.heap.size w w' ∧ RowS w w' rb (.slice fa FL.length fc) FL))
        case atStart => exact ⟨0, rfl, by omega, by omega, Lib.hid (show FF = _ from hFF), HH⟩
        case round =>
          obtain ⟨i, rfl, hg, hi2, HF, HW⟩ := hrel
          have hF := show FF = Al.firstF (Al.oneF p.q p.vars) (FL.drop i) i from HF
          obtain ⟨V1, hbb, hrow⟩ := show VB wr kp (kp + 1) p Va Ab vc cb ∧ Below w.heap.size w wr ∧ RowS w wr rb (.slice fa FL.length fc) FL from HW
          clear HH HF HW
          obtain ⟨p0, p1, p2, p3⟩ := V1.p.cells
          by_cases hil : i < FL.length
          · obtain ⟨k1, rfl⟩ : ∃ k1, gk = k1 + 1 := ⟨gk - 1, by omega⟩
            obtain ⟨gf, A6, c6, A7, c7, hfa, -, -, -, -, d0, d1, d2, d3, d4, d5, d6, d7⟩ := rowS_get hrow hil
            rw [List.drop_eq_getElem_cons hil] at hF
            unfold Al.firstF at hF
            obtain ⟨s, hs⟩ : ∃ s, s = FL[i] := ⟨_, rfl⟩
            rw [← hs] at d0 d1 d2 d3 d4 d5 d6 d7 hF
            clear hs
            have HOn := ref_one (w := wr.drew) ((show PLies w p Va Ab vc cb from HP).below (below_drew' hbb)) hvl s (A6 := A6) (A7 := A7) (c6 := c6) (c7 := c7) hq
            unfold progV stmtV at HOn
            obtain ⟨vo, hvo⟩ : ∃ vo, vo = Al.oneF p.q p.vars s := ⟨_, rfl⟩
            rw [← hvo] at HOn hF
            clear hvo
            subst hfa
            have r0 : (0 : Int) ≤ (i : Int) := by omega
            have r1 : (i : Int) < (FL.length : Int) := by omega
            have r2 : decide ((i : Int) < (FL.length : Int)) = true := decide_eq_true r1
            have hbd := below_drew' hbb
            by_cases hz : vo = 0
            · subst hz
              simp only [ne_eq, not_true, if_false] at hF
              have HF : Hid (FF = Al.firstF (Al.oneF p.q p.vars) (FL.drop (i + 1)) ((i + 1 : Nat) : Int)) := Lib.hid (by rw [Int.natCast_add]; exact hF)
              clear hF
              have z0 : ((0 : Int) != 0) = false := by decide
              have HRw := Lib.hid hrow
              clear hrow
              go_wp2_with fail
              go_still_tail 5, (by kernel_rfl)
              go_wp2_with (first | (go_at_call 87; refine HOn.mono ?_; rintro e w2 ⟨rfl, hb2⟩; replace hb2 := undrew hb2))
              have HH2 : Hid (VB w2 kp (kp + 1) p Va Ab vc cb ∧ Below w.heap.size w w2 ∧ RowS w w2 rb (.slice (some ⟨gf, 0, none⟩) FL.length fc) FL) := Lib.hid ⟨V1.below hb2, hbb.trans (lower_below hb2 hbb.size), (show RowS w wr rb (.slice (some ⟨gf, 0, none⟩) FL.length fc) FL from HRw).below hb2⟩
              clear hb2 V1 hbb d0 d1 d2 d3 d4 d5 d6 d7 HOn hbd HRw
              go_roundg k1
              case measure => omega
              case rel => exact ⟨i + 1, by simp, by omega, by omega, HF, HH2⟩
            · rw [if_pos hz] at hF
              have hRR := show R = _ from hRv
              rw [hF] at hRR
              have hRv2 := Lib.hid hRR
              have z0 : (vo != 0) = true := by simp [hz]
              have z0' : (vo == 0) = false := by simp [hz]
              clear hRR hF hrow
              have HPl := fun w0 => placed_lit w0 vo (i : Int) hz
              clear hz
              go_wp2_with fail
              go_still_tail 5, (by kernel_rfl)
              go_wp2_with (first | (go_at_call 87; refine HOn.mono ?_; rintro e w2 ⟨rfl, hb2⟩; replace hb2 := undrew hb2; have V2 := V1.below hb2; have hb3 := hbb.trans (lower_below hb2 hbb.size)) | (go_at_call 51; refine (HPl _).mono ?_; rintro e w9 ⟨rfl, hb9⟩; have I9 := V2.below hb9; obtain ⟨z0, z1, z2, y0, y1, y2⟩ := I9.facts; have hb10 := hb3.trans (lower_below hb9 hb3.size); have F9 := set3 I9.r (.int .i64 vo) (.bool true) (.int .i64 i)))
              refine gen_world (Q := fun W => bodyPost _ _ _ _ _ W) _ (fun W => W.heap[kp + 1]? = some (.cells #[.int .i64 vo, .bool true, .int .i64 i] 36 (0, 0)) ∧ Below w.heap.size w W) ⟨F9, below_set3 hb10 hkr⟩ ?_
              clear F9 hb10 hb9 I9 z0 z1 z2 y0 y1 y2
              rintro W9 ⟨F, HB⟩
              have c0 : W9.cell? ⟨kp + 1, 0, none⟩ = some (.int .i64 vo) := (cell_blk F _).trans rfl
              have c1 : W9.cell? ⟨kp + 1, 1, none⟩ = some (.bool true) := (cell_blk F _).trans rfl
              have c2 : W9.cell? ⟨kp + 1, 2, none⟩ = some (.int .i64 i) := (cell_blk F _).trans rfl
              exact bodyPost_ret (v := .agg #[.int .i64 vo, .bool true, .int .i64 i]) (by simp [results, Tryz.results49, go_sem, c0, c1, c2]) rfl ⟨by rw [show R = _ from hRv2]; rfl, HB⟩
          · have hie : i = FL.length := by omega
            have t9 : decide ((i : Int) < (FL.length : Int)) = false := by simp; omega
            rw [hie, List.drop_length] at hF
            have hRR := show R = _ from hRv
            rw [hF] at hRR
            have hRv2 := Lib.hid hRR
            clear hRR hF hrow
            go_wp2_with (first | (go_at_call 52; refine (none_lit _).mono ?_; rintro e w9 ⟨rfl, hb9⟩; have I9 := V1.below hb9; obtain ⟨z0, z1, z2, y0, y1, y2⟩ := I9.facts; have hb10 := hbb.trans (lower_below hb9 hbb.size); have F9 := set3 I9.r (.int .i64 0) (.bool false) (.int .i64 0)))
            refine gen_world (Q := fun W => bodyPost _ _ _ _ _ W) _ (fun W => W.heap[kp + 1]? = some (.cells #[.int .i64 0, .bool false, .int .i64 0] 36 (0, 0)) ∧ Below w.heap.size w W) ⟨F9, below_set3 hb10 hkr⟩ ?_
            clear F9 hb10 hb9 I9 z0 z1 z2 y0 y1 y2
            rintro W9 ⟨F, HB⟩
            have c0 : W9.cell? ⟨kp + 1, 0, none⟩ = some (.int .i64 0) := (cell_blk F _).trans rfl
            have c1 : W9.cell? ⟨kp + 1, 1, none⟩ = some (.bool false) := (cell_blk F _).trans rfl
            have c2 : W9.cell? ⟨kp + 1, 2, none⟩ = some (.int .i64 0) := (cell_blk F _).trans rfl
            exact bodyPost_ret (v := .agg #[.int .i64 0, .bool false, .int .i64 0]) (by simp [results, Tryz.results49, go_sem, c0, c1, c2]) rfl ⟨by rw [show R = _ from hRv2]; rfl, HB⟩
end Go.Proofs.YtkplfaionpplaaaGreatDoor
