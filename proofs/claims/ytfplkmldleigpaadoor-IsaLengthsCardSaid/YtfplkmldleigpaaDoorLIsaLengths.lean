/- Law IsaLengths: how long right instructions are, and by how much with a longer form. Conditions: none. -/
import Derived.Test.YtfplkmldleigpaaDoorB10
import Derived.Test.YtfplkmldleigpaaDoorO3
import Derived.Deep.RegionHeld3
namespace Go.Proofs.YtfplkmldleigpaaDoor.isaLengths
open Go.RowKit
set_option linter.unusedVariables false

/-! ### plain -/
theorem spans_of {op a b n f : Int} (h : checkR op a b n f = 0) : spansB op = decide (0 < f) ∧ (f = 0 ∨ f = 1 ∨ f = 2 ∨ f = 4) := by
  have hf := checkR_form h
  refine ⟨?_, hf⟩
  unfold checkR at h
  split at h
  · cases h
  split at h
  · cases h
  split at h
  · cases h
  rename_i h1 h2 h3
  rw [not_or] at h3
  have hn : numB (opShape op) n f = true := by simpa using h3.2
  by_cases hs : spansB op = false
  · have := h3.1
    simp only [hs, true_and, ne_eq, Classical.not_not] at this
    rw [hs, this]
    rfl
  · have hs2 : spansB op = true := by simpa using hs
    rw [hs2]
    have hsp : opShape op = 12 ∨ opShape op = 13 := by
      simp only [spansB, Bool.or_eq_true, beq_iff_eq] at hs2
      exact hs2
    rcases hf with rfl | rfl | rfl | rfl
    · exfalso
      unfold numB at hn
      rcases hsp with e | e <;> rw [e] at hn <;> simp [fitsB] at hn
    · rfl
    · rfl
    · rfl
theorem fits_more {n : Int} : (fitsB n 1 = true → fitsB n 2 = true) ∧ (fitsB n 2 = true → -2147483648 ≤ n ∧ n ≤ 2147483647 → fitsB n 4 = true) := by
  simp [fitsB]
  omega
/-- with a longer form it is right, and longer by as many bytes -/
theorem more {op a b n f : Int} (hn : -2147483648 ≤ n ∧ n ≤ 2147483647) (h : checkR op a b n f = 0) (hf : f = 1 ∨ f = 2) :
    checkR op a b n (2 * f) = 0 ∧ (lenR op a b n f = 1 + f ∨ lenR op a b n f = 2 + f) ∧ lenR op a b n (2 * f) = lenR op a b n f + f := by
  have hs := (spans_of h).1
  have hop := checkR_op h
  have hc : checkR op a b n (2 * f) = 0 := by
    unfold checkR at h ⊢
    split at h
    · cases h
    split at h
    · cases h
    split at h
    · cases h
    rename_i h1 h2 h3
    rw [if_neg h1, if_neg h2]
    rw [not_or] at h3
    have hn' : numB (opShape op) n f = true := by simpa using h3.2
    have hs2 : spansB op = true := by rw [hs]; rcases hf with rfl | rfl <;> rfl
    have hsp : opShape op = 12 ∨ opShape op = 13 := by
      simp only [spansB, Bool.or_eq_true, beq_iff_eq] at hs2
      exact hs2
    rw [if_neg]
    rw [not_or]
    refine ⟨by rw [hs2]; simp, ?_⟩
    have e : ∀ x, numB (opShape op) n x = fitsB n x := by intro x; unfold numB; rcases hsp with e | e <;> simp [e]
    rw [e] at hn' ⊢
    rcases hf with rfl | rfl
    · have := fits_more.1 hn'
      simpa using this
    · have := fits_more.2 hn' hn
      simpa using this
  have hs2 : spansB op = true := by rw [hs]; rcases hf with rfl | rfl <;> rfl
  have hsp : opShape op = 12 ∨ opShape op = 13 := by
    simp only [spansB, Bool.or_eq_true, beq_iff_eq] at hs2
    exact hs2
  refine ⟨hc, ?_⟩
  unfold lenR
  rw [if_pos h, if_pos hc]
  unfold sizeR
  rcases hsp with e | e <;> rw [e] <;> simp <;> omega
theorem len_bounds {op a b n f : Int} (h : checkR op a b n f = 0) : 1 ≤ lenR op a b n f ∧ lenR op a b n f ≤ 6 := by
  have hf := (spans_of h).2
  unfold lenR
  rw [if_pos h]
  unfold sizeR
  repeat' split
  all_goals omega

/-! ### the walk -/
theorem tabHeld {P : Prop} {g : Nat} {w0 w1 : World} (hT : TabIs g w0) (h : Below w0.heap.size w0 w1 ∧ P) : TabIs g w1 := hT.grow h.1
theorem held2 {w0 w1 w2 : World} {g o p : Nat} {a b : Value} (h : Below w0.heap.size w0 w1 ∧ w1.cell? ⟨g, o, none⟩ = some a ∧ w1.cell? ⟨g, p, none⟩ = some b) (hg : g < w0.heap.size) (hb : Below w1.heap.size w1 w2) :
    Below w0.heap.size w0 w2 ∧ w2.cell? ⟨g, o, none⟩ = some a ∧ w2.cell? ⟨g, p, none⟩ = some b := by
  obtain ⟨h1, h2, h3⟩ := h
  have hz := h1.size
  obtain ⟨hc, _⟩ := bcell hb
  exact ⟨h1.trans (hb.mono hz), (hc _ _ (by omega)).trans h2, (hc _ _ (by omega)).trans h3⟩

theorem walk_bad (op a b n f C : Int) (w : World) (hT : TabIs 0 w) (hC : (C != 0) = true)
    (Hch : Hid (∀ w, TabIs 0 w → Calls Tryd.prog 26 #[.agg #[.int .i64 op, .int .i64 a, .int .i64 b, .int .i32 n, .int .i64 f]] w fun e w' => e = .returned (.int .i64 C) ∧ Below w.heap.size w w'))
    (Hle : Hid (∀ w, TabIs 0 w → Calls Tryd.prog 27 #[.agg #[.int .i64 op, .int .i64 a, .int .i64 b, .int .i32 n, .int .i64 f]] w fun e w' => e = .returned (.int .i64 0) ∧ Below w.heap.size w w')) :
    Calls Tryd.prog 6 #[.agg #[.int .i64 op, .int .i64 a, .int .i64 b, .int .i32 n, .int .i64 f]] w fun e w' => e = .returned (.bool true) ∧ Below w.heap.size w w' := by
  go_enter Tryd.func6, Tryd.ntmps6
  go_wp2_with (first
    | (go_at_call 26; refine (Hch.out _ (hT.alloc _)).mono ?_; rintro e w1 ⟨rfl, hb1⟩; obtain ⟨hc1, hf1⟩ := bcell hb1; have hz1 : w.heap.size < w1.heap.size := (by have := hb1.size; simp at this; omega); have hT1 := ((hT.alloc _).grow hb1))
    | (go_at_call 27; refine (Hle.out _ hT1).mono ?_; rintro e w2 ⟨rfl, hb2⟩; have hz2 : w.heap.size < w2.heap.size := Nat.lt_of_lt_of_le hz1 hb2.size; have hT2 := hT1.grow hb2)
    | (go_at_call 23; refine (known5_any _ hT2).mono ?_; rintro e w5 ⟨rfl, hb5⟩))
  go_ret
  exact ⟨rfl, (((Below.refl w.heap.size w).alloc (Nat.le_refl _) _).trans (hb1.mono (by simp))).trans (hb2.mono (by omega)) |>.trans (hb5.mono (by omega))⟩

/-- form 0 or 4: no longer one is asked -/
theorem walk_stop (op a b n f L : Int) (SB : Bool) (w : World) (hT : TabIs 0 w) (g1 : decide (L < 1) = false) (g2 : decide (6 < L) = false) (hf1 : (f != 1) = true) (hf2 : (f != 2) = true) (hSB : decide (0 < f) = SB)
    (Hch : Hid (∀ w, TabIs 0 w → Calls Tryd.prog 26 #[.agg #[.int .i64 op, .int .i64 a, .int .i64 b, .int .i32 n, .int .i64 f]] w fun e w' => e = .returned (.int .i64 0) ∧ Below w.heap.size w w'))
    (Hle : Hid (∀ w, TabIs 0 w → Calls Tryd.prog 27 #[.agg #[.int .i64 op, .int .i64 a, .int .i64 b, .int .i32 n, .int .i64 f]] w fun e w' => e = .returned (.int .i64 L) ∧ Below w.heap.size w w'))
    (Hsp : Hid (∀ w, TabIs 0 w → Calls Tryd.prog 19 #[.int .i64 op] w fun e w' => e = .returned (.bool SB) ∧ Below w.heap.size w w')) :
    Calls Tryd.prog 6 #[.agg #[.int .i64 op, .int .i64 a, .int .i64 b, .int .i32 n, .int .i64 f]] w fun e w' => e = .returned (.bool true) ∧ Below w.heap.size w w' := by
  cases SB
  all_goals
    go_enter Tryd.func6, Tryd.ntmps6
    go_wp2_with (first
      | (go_at_call 26; refine (Hch.out _ (hT.alloc _)).mono ?_; rintro e w1 ⟨rfl, hb1⟩; obtain ⟨hc1, hf1⟩ := bcell hb1; have hz1 : w.heap.size < w1.heap.size := (by have := hb1.size; simp at this; omega); have hT1 := ((hT.alloc _).grow hb1))
      | (go_at_call 27; refine (Hle.out _ hT1).mono ?_; rintro e w2 ⟨rfl, hb2⟩; obtain ⟨hc2, hf2⟩ := bcell hb2; have hz2 : w.heap.size < w2.heap.size := Nat.lt_of_lt_of_le hz1 hb2.size; have hT2 := hT1.grow hb2; have hi0 : w2.cell? ⟨w.heap.size, 0, none⟩ = some (.int .i64 op) := (by rw [hc2 _ _ hz1, hc1 _ _ (by simp)]; exact (Blk.new w _ _).cell 0); have hi4 : w2.cell? ⟨w.heap.size, 4, none⟩ = some (.int .i64 f) := (by rw [hc2 _ _ hz1, hc1 _ _ (by simp)]; exact (Blk.new w _ _).cell 4))
      | fail)
    go_region_held3 (fun w' => Below w2.heap.size w2 w' ∧ w'.cell? ⟨w.heap.size, 0, none⟩ = some (.int .i64 op) ∧ w'.cell? ⟨w.heap.size, 4, none⟩ = some (.int .i64 f))
      (first | exact held2 (by assumption) hz2 hbb | exact ⟨(Below.refl _ _).drew, hi0, hi4⟩)
      (first | (go_at_call 19; refine (Hsp.out _ ?_).mono ?_; exact tabHeld hT2 (by assumption); rintro e w3 ⟨rfl, hbb⟩))
    all_goals
      rename_i hH
      obtain ⟨hB3, hj0, hj4⟩ := hH
      have hT3 := hT2.grow hB3
      have hz3 := hB3.size
      go_wp2_with (first
        | (go_at_call 23; refine (known5_any _ hT3).mono ?_; rintro e w5 ⟨rfl, hb5⟩))
      go_ret
      exact ⟨rfl, ((((Below.refl w.heap.size w).alloc (Nat.le_refl _) _).trans (hb1.mono (by simp))).trans (hb2.mono (by omega))).trans (hB3.mono (by omega)) |>.trans (hb5.mono (by omega))⟩

theorem held7 {w0 w1 w2 : World} {g k o : Nat} {a b c d e f : Value} (h : Below w0.heap.size w0 w1 ∧ w1.cell? ⟨g, o, none⟩ = some a ∧ w1.cell? ⟨k, 0, none⟩ = some b ∧ w1.cell? ⟨k, 1, none⟩ = some c ∧ w1.cell? ⟨k, 2, none⟩ = some d ∧ w1.cell? ⟨k, 3, none⟩ = some e ∧ w1.cell? ⟨k, 4, none⟩ = some f) (hg : g < w0.heap.size) (hk : k < w0.heap.size) (hb : Below w1.heap.size w1 w2) :
    Below w0.heap.size w0 w2 ∧ w2.cell? ⟨g, o, none⟩ = some a ∧ w2.cell? ⟨k, 0, none⟩ = some b ∧ w2.cell? ⟨k, 1, none⟩ = some c ∧ w2.cell? ⟨k, 2, none⟩ = some d ∧ w2.cell? ⟨k, 3, none⟩ = some e ∧ w2.cell? ⟨k, 4, none⟩ = some f := by
  obtain ⟨h1, h2, h3, h4, h5, h6, h7⟩ := h
  have hz := h1.size
  obtain ⟨hc, _⟩ := bcell hb
  exact ⟨h1.trans (hb.mono hz), (hc _ _ (by omega)).trans h2, (hc _ _ (by omega)).trans h3, (hc _ _ (by omega)).trans h4, (hc _ _ (by omega)).trans h5, (hc _ _ (by omega)).trans h6, (hc _ _ (by omega)).trans h7⟩

/-- form 1 or 2: the longer one, too -/
theorem walk_more (op a b n f L : Int) (w : World) (hT : TabIs 0 w) (g1 : decide (L < 1) = false) (g2 : decide (6 < L) = false) (hF : f = 1 ∨ f = 2) (hL : L = 1 + f ∨ L = 2 + f)
    (Hch : Hid (∀ w, TabIs 0 w → Calls Tryd.prog 26 #[.agg #[.int .i64 op, .int .i64 a, .int .i64 b, .int .i32 n, .int .i64 f]] w fun e w' => e = .returned (.int .i64 0) ∧ Below w.heap.size w w'))
    (Hle : Hid (∀ w, TabIs 0 w → Calls Tryd.prog 27 #[.agg #[.int .i64 op, .int .i64 a, .int .i64 b, .int .i32 n, .int .i64 f]] w fun e w' => e = .returned (.int .i64 L) ∧ Below w.heap.size w w'))
    (Hch2 : Hid (∀ w, TabIs 0 w → Calls Tryd.prog 26 #[.agg #[.int .i64 op, .int .i64 a, .int .i64 b, .int .i32 n, .int .i64 (2 * f)]] w fun e w' => e = .returned (.int .i64 0) ∧ Below w.heap.size w w'))
    (Hle2 : Hid (∀ w, TabIs 0 w → Calls Tryd.prog 27 #[.agg #[.int .i64 op, .int .i64 a, .int .i64 b, .int .i32 n, .int .i64 (2 * f)]] w fun e w' => e = .returned (.int .i64 (L + f)) ∧ Below w.heap.size w w'))
    (Hsp : Hid (∀ w, TabIs 0 w → Calls Tryd.prog 19 #[.int .i64 op] w fun e w' => e = .returned (.bool true) ∧ Below w.heap.size w w')) :
    Calls Tryd.prog 6 #[.agg #[.int .i64 op, .int .i64 a, .int .i64 b, .int .i32 n, .int .i64 f]] w fun e w' => e = .returned (.bool true) ∧ Below w.heap.size w w' := by
  obtain ⟨M, hM⟩ : ∃ M, M = L + f := ⟨_, rfl⟩
  obtain ⟨h, hh⟩ : ∃ h, h = 2 * f := ⟨_, rfl⟩
  rw [← hM] at Hle2
  rw [← hh] at Hch2 Hle2
  have e2 : IntKind.i64.wrap (L + f) = M := by rcases hF with rfl | rfl <;> rcases hL with rfl | rfl <;> subst hM <;> rfl
  clear hM hL
  rcases hF with rfl | rfl
  case' inl => obtain rfl : h = 2 := by omega
  case' inr => obtain rfl : h = 4 := by omega
  · clear hh
    go_enter Tryd.func6, Tryd.ntmps6
    go_wp2_with (first
      | (go_at_call 26; refine (Hch.out _ (hT.alloc _)).mono ?_; rintro e w1 ⟨rfl, hb1⟩; obtain ⟨hc1, hf1⟩ := bcell hb1; have hz1 : w.heap.size < w1.heap.size := (by have := hb1.size; simp at this; omega); have hT1 := ((hT.alloc _).grow hb1))
      | (go_at_call 27; refine (Hle.out _ hT1).mono ?_; rintro e w2 ⟨rfl, hb2⟩; obtain ⟨hc2, hf2⟩ := bcell hb2; have hz2 : w.heap.size < w2.heap.size := Nat.lt_of_lt_of_le hz1 hb2.size; have hT2 := hT1.grow hb2; have hi0 : w2.cell? ⟨w.heap.size, 0, none⟩ = some (.int .i64 op) := (by rw [hc2 _ _ hz1, hc1 _ _ (by simp)]; exact (Blk.new w _ _).cell 0); have hi1 : w2.cell? ⟨w.heap.size, 1, none⟩ = some (.int .i64 a) := (by rw [hc2 _ _ hz1, hc1 _ _ (by simp)]; exact (Blk.new w _ _).cell 1); have hi2 : w2.cell? ⟨w.heap.size, 2, none⟩ = some (.int .i64 b) := (by rw [hc2 _ _ hz1, hc1 _ _ (by simp)]; exact (Blk.new w _ _).cell 2); have hi3 : w2.cell? ⟨w.heap.size, 3, none⟩ = some (.int .i32 n) := (by rw [hc2 _ _ hz1, hc1 _ _ (by simp)]; exact (Blk.new w _ _).cell 3); have hi4 : w2.cell? ⟨w.heap.size, 4, none⟩ = some (.int .i64 2) := (by rw [hc2 _ _ hz1, hc1 _ _ (by simp)]; exact (Blk.new w _ _).cell 4))
      | fail)
    go_region_held3 (fun w' => Below w2.heap.size w2 w' ∧ w'.cell? ⟨w.heap.size, 4, none⟩ = some (.int .i64 2) ∧ w'.cell? ⟨w.heap.size, 0, none⟩ = some (.int .i64 op) ∧ w'.cell? ⟨w.heap.size, 1, none⟩ = some (.int .i64 a) ∧ w'.cell? ⟨w.heap.size, 2, none⟩ = some (.int .i64 b) ∧ w'.cell? ⟨w.heap.size, 3, none⟩ = some (.int .i32 n) ∧ w'.cell? ⟨w.heap.size, 4, none⟩ = some (.int .i64 2))
      (first | exact held7 (by assumption) hz2 hz2 hbb | exact ⟨(Below.refl _ _).drew, hi4, hi0, hi1, hi2, hi3, hi4⟩)
      (first | (go_at_call 19; refine (Hsp.out _ ?_).mono ?_; exact tabHeld hT2 (by assumption); rintro e w3 ⟨rfl, hbb⟩))
    all_goals
      rename_i w3 hH
      obtain ⟨hB3, _, hj0, hj1, hj2, hj3, hj4⟩ := hH
      have hT3 := hT2.grow hB3
      have hz3 := hB3.size
      have hz4 : w.heap.size < w3.heap.size := Nat.lt_of_lt_of_le hz2 hz3
      have hn4 : w.heap.size ≠ w3.heap.size := Nat.ne_of_lt hz4
      have hn5 : w3.heap.size ≠ w.heap.size := Nat.ne_of_gt hz4
      go_wp2_with fail
      obtain ⟨w4, hw4⟩ : ∃ w4, w4 = w3.alloc (.cells #[.int .i64 op, .int .i64 a, .int .i64 b, .int .i32 n, .int .i64 4] 35) := ⟨_, rfl⟩
      rw [← hw4]
      have hk : Blk w4 w3.heap.size 35 [.int .i64 op, .int .i64 a, .int .i64 b, .int .i32 n, .int .i64 4] := by rw [hw4]; exact Blk.new w3 _ _
      have hT4 : TabIs 0 w4 := by rw [hw4]; exact hT3.alloc _
      have hB4 : Below w3.heap.size w3 w4 := by rw [hw4]; exact (Below.refl _ _).alloc (Nat.le_refl _) _
      have hl4 : w3.heap.size < w4.heap.size := hk.lt
      have hm4 : w.heap.size < w4.heap.size := Nat.lt_trans hz4 hl4
      have k0 := hk.cell 0
      have k1 := hk.cell 1
      have k2 := hk.cell 2
      have k3 := hk.cell 3
      have k4 := hk.cell 4
      have hi4' : w4.cell? ⟨w.heap.size, 4, none⟩ = some (.int .i64 2) := by rw [(bcell hB4).1 _ _ hz4]; exact hj4
      clear hw4
      go_region_held3 (fun w' => Below w4.heap.size w4 w' ∧ w'.cell? ⟨w.heap.size, 4, none⟩ = some (.int .i64 2) ∧ w'.cell? ⟨w3.heap.size, 0, none⟩ = some (.int .i64 op) ∧ w'.cell? ⟨w3.heap.size, 1, none⟩ = some (.int .i64 a) ∧ w'.cell? ⟨w3.heap.size, 2, none⟩ = some (.int .i64 b) ∧ w'.cell? ⟨w3.heap.size, 3, none⟩ = some (.int .i32 n) ∧ w'.cell? ⟨w3.heap.size, 4, none⟩ = some (.int .i64 4))
        (first | exact held7 (by assumption) hm4 hl4 hbb | exact ⟨(Below.refl _ _).drew, hi4', k0, k1, k2, k3, k4⟩)
        (first
          | (go_at_call 26; refine (Hch2.out _ ?_).mono ?_; exact tabHeld hT4 (by assumption); rintro e w5 ⟨rfl, hbb⟩)
          | (go_at_call 27; refine (Hle2.out _ ?_).mono ?_; exact tabHeld hT4 (by assumption); rintro e w5 ⟨rfl, hbb⟩)
          | (go_at_call 23; refine (known5_any _ ?_).mono ?_; exact tabHeld hT4 (by assumption); rintro e w5 ⟨rfl, hbb⟩))
      all_goals
        rename_i hH
        obtain ⟨hB5, _⟩ := hH
        have hz5 := hB5.size
        go_wp2_with fail
        go_ret
        exact ⟨rfl, (((((Below.refl w.heap.size w).alloc (Nat.le_refl _) _).trans (hb1.mono (by simp))).trans (hb2.mono (by omega))).trans (hB3.mono (by omega))).trans (hB4.mono (by omega)) |>.trans (hB5.mono (by omega))⟩
  · clear hh
    go_enter Tryd.func6, Tryd.ntmps6
    go_wp2_with (first
      | (go_at_call 26; refine (Hch.out _ (hT.alloc _)).mono ?_; rintro e w1 ⟨rfl, hb1⟩; obtain ⟨hc1, hf1⟩ := bcell hb1; have hz1 : w.heap.size < w1.heap.size := (by have := hb1.size; simp at this; omega); have hT1 := ((hT.alloc _).grow hb1))
      | (go_at_call 27; refine (Hle.out _ hT1).mono ?_; rintro e w2 ⟨rfl, hb2⟩; obtain ⟨hc2, hf2⟩ := bcell hb2; have hz2 : w.heap.size < w2.heap.size := Nat.lt_of_lt_of_le hz1 hb2.size; have hT2 := hT1.grow hb2; have hi0 : w2.cell? ⟨w.heap.size, 0, none⟩ = some (.int .i64 op) := (by rw [hc2 _ _ hz1, hc1 _ _ (by simp)]; exact (Blk.new w _ _).cell 0); have hi1 : w2.cell? ⟨w.heap.size, 1, none⟩ = some (.int .i64 a) := (by rw [hc2 _ _ hz1, hc1 _ _ (by simp)]; exact (Blk.new w _ _).cell 1); have hi2 : w2.cell? ⟨w.heap.size, 2, none⟩ = some (.int .i64 b) := (by rw [hc2 _ _ hz1, hc1 _ _ (by simp)]; exact (Blk.new w _ _).cell 2); have hi3 : w2.cell? ⟨w.heap.size, 3, none⟩ = some (.int .i32 n) := (by rw [hc2 _ _ hz1, hc1 _ _ (by simp)]; exact (Blk.new w _ _).cell 3); have hi4 : w2.cell? ⟨w.heap.size, 4, none⟩ = some (.int .i64 1) := (by rw [hc2 _ _ hz1, hc1 _ _ (by simp)]; exact (Blk.new w _ _).cell 4))
      | fail)
    go_region_held3 (fun w' => Below w2.heap.size w2 w' ∧ w'.cell? ⟨w.heap.size, 4, none⟩ = some (.int .i64 1) ∧ w'.cell? ⟨w.heap.size, 0, none⟩ = some (.int .i64 op) ∧ w'.cell? ⟨w.heap.size, 1, none⟩ = some (.int .i64 a) ∧ w'.cell? ⟨w.heap.size, 2, none⟩ = some (.int .i64 b) ∧ w'.cell? ⟨w.heap.size, 3, none⟩ = some (.int .i32 n) ∧ w'.cell? ⟨w.heap.size, 4, none⟩ = some (.int .i64 1))
      (first | exact held7 (by assumption) hz2 hz2 hbb | exact ⟨(Below.refl _ _).drew, hi4, hi0, hi1, hi2, hi3, hi4⟩)
      (first | (go_at_call 19; refine (Hsp.out _ ?_).mono ?_; exact tabHeld hT2 (by assumption); rintro e w3 ⟨rfl, hbb⟩))
    all_goals
      rename_i w3 hH
      obtain ⟨hB3, _, hj0, hj1, hj2, hj3, hj4⟩ := hH
      have hT3 := hT2.grow hB3
      have hz3 := hB3.size
      have hz4 : w.heap.size < w3.heap.size := Nat.lt_of_lt_of_le hz2 hz3
      have hn4 : w.heap.size ≠ w3.heap.size := Nat.ne_of_lt hz4
      have hn5 : w3.heap.size ≠ w.heap.size := Nat.ne_of_gt hz4
      go_wp2_with fail
      obtain ⟨w4, hw4⟩ : ∃ w4, w4 = w3.alloc (.cells #[.int .i64 op, .int .i64 a, .int .i64 b, .int .i32 n, .int .i64 2] 35) := ⟨_, rfl⟩
      rw [← hw4]
      have hk : Blk w4 w3.heap.size 35 [.int .i64 op, .int .i64 a, .int .i64 b, .int .i32 n, .int .i64 2] := by rw [hw4]; exact Blk.new w3 _ _
      have hT4 : TabIs 0 w4 := by rw [hw4]; exact hT3.alloc _
      have hB4 : Below w3.heap.size w3 w4 := by rw [hw4]; exact (Below.refl _ _).alloc (Nat.le_refl _) _
      have hl4 : w3.heap.size < w4.heap.size := hk.lt
      have hm4 : w.heap.size < w4.heap.size := Nat.lt_trans hz4 hl4
      have k0 := hk.cell 0
      have k1 := hk.cell 1
      have k2 := hk.cell 2
      have k3 := hk.cell 3
      have k4 := hk.cell 4
      have hi4' : w4.cell? ⟨w.heap.size, 4, none⟩ = some (.int .i64 1) := by rw [(bcell hB4).1 _ _ hz4]; exact hj4
      clear hw4
      go_region_held3 (fun w' => Below w4.heap.size w4 w' ∧ w'.cell? ⟨w.heap.size, 4, none⟩ = some (.int .i64 1) ∧ w'.cell? ⟨w3.heap.size, 0, none⟩ = some (.int .i64 op) ∧ w'.cell? ⟨w3.heap.size, 1, none⟩ = some (.int .i64 a) ∧ w'.cell? ⟨w3.heap.size, 2, none⟩ = some (.int .i64 b) ∧ w'.cell? ⟨w3.heap.size, 3, none⟩ = some (.int .i32 n) ∧ w'.cell? ⟨w3.heap.size, 4, none⟩ = some (.int .i64 2))
        (first | exact held7 (by assumption) hm4 hl4 hbb | exact ⟨(Below.refl _ _).drew, hi4', k0, k1, k2, k3, k4⟩)
        (first
          | (go_at_call 26; refine (Hch2.out _ ?_).mono ?_; exact tabHeld hT4 (by assumption); rintro e w5 ⟨rfl, hbb⟩)
          | (go_at_call 27; refine (Hle2.out _ ?_).mono ?_; exact tabHeld hT4 (by assumption); rintro e w5 ⟨rfl, hbb⟩)
          | (go_at_call 23; refine (known5_any _ ?_).mono ?_; exact tabHeld hT4 (by assumption); rintro e w5 ⟨rfl, hbb⟩))
      all_goals
        rename_i hH
        obtain ⟨hB5, _⟩ := hH
        have hz5 := hB5.size
        go_wp2_with fail
        go_ret
        exact ⟨rfl, (((((Below.refl w.heap.size w).alloc (Nat.le_refl _) _).trans (hb1.mono (by simp))).trans (hb2.mono (by omega))).trans (hB3.mono (by omega))).trans (hB4.mono (by omega)) |>.trans (hB5.mono (by omega))⟩

theorem walk (w : World) (i : Ins) (hi : i.Ok) (hT : TabIs 0 w) :
    Calls Tryd.prog 6 #[i.val] w fun e w' => e = .returned (.bool true) ∧ Below w.heap.size w w' := by
  obtain ⟨op, a, b, n, f⟩ := i
  obtain ⟨_, _, _, hn, _⟩ := hi
  have hn' : -2147483648 ≤ n ∧ n ≤ 2147483647 := hn
  have hch := fun w hT => check_any op a b n f w hn hT
  have hle := fun w hT => len_any op a b n f w hn hT
  have hsp := fun w hT => spans_any op w hT
  by_cases hC : checkR op a b n f = 0
  · obtain ⟨hs, hf⟩ := spans_of hC
    obtain ⟨l1, l2⟩ := len_bounds hC
    rw [hC] at hch
    rw [hs] at hsp
    by_cases h12 : f = 1 ∨ f = 2
    · obtain ⟨m1, m2, m3⟩ := more hn' hC h12
      have hch2 := fun w hT => check_any op a b n (2 * f) w hn hT
      have hle2 := fun w hT => len_any op a b n (2 * f) w hn hT
      rw [m1] at hch2
      rw [m3] at hle2
      rw [show decide (0 < f) = true by simp; omega] at hsp
      exact walk_more op a b n f _ w hT (by simp; omega) (by simp; omega) h12 m2 (Lib.hid hch) (Lib.hid hle) (Lib.hid hch2) (Lib.hid hle2) (Lib.hid hsp)
    · have n1 : f ≠ 1 := fun h => h12 (.inl h)
      have n2 : f ≠ 2 := fun h => h12 (.inr h)
      exact walk_stop op a b n f _ _ w hT (by simp; omega) (by simp; omega) (by simpa using n1) (by simpa using n2) rfl (Lib.hid hch) (Lib.hid hle) (Lib.hid hsp)
  · have hl : lenR op a b n f = 0 := by unfold lenR; rw [if_neg hC]
    rw [hl] at hle
    exact walk_bad op a b n f _ w hT (by simpa using hC) (Lib.hid hch) (Lib.hid hle)
end Go.Proofs.YtfplkmldleigpaaDoor.isaLengths
