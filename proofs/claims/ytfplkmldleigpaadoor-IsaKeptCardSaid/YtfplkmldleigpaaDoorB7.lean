/- The walks of the reference's Find, Shape, Spans, Size. -/
import Derived.Test.YtfplkmldleigpaaDoorB5
import Derived.Test.YtfplkmldleigpaaDoorB1
import Derived.Test.YtfplkmldleigpaaDoorP7
namespace Go.Proofs.YtfplkmldleigpaaDoor
open Go.RowKit
set_option linter.unusedVariables false

theorem refOps_gives (w : World) : Calls Tryd.prog 29 #[] w fun e w' => e = .returned (.slice (some ⟨w.heap.size, 0, none⟩) 43 43) ∧ TabIs w.heap.size w' ∧ Below w.heap.size w w' := by
  refine (refOps_any w).mono ?_
  rintro e w' ⟨rfl, rfl⟩
  exact ⟨rfl, ⟨_, Blk.new _ _ _⟩, (Below.refl _ _).alloc (Nat.le_refl _) _⟩

theorem refShape_any (op : Int) (w : World) : Calls Tryd.prog 18 #[.int .i64 op] w fun e w' => e = .returned (.int .i64 (opShape op)) ∧ Below w.heap.size w w' := by
  by_cases h : 1 ≤ op ∧ op ≤ 43
  · obtain ⟨k, rfl⟩ : ∃ k : Nat, op = (k : Int) + 1 := ⟨(op - 1).toNat, by omega⟩
    have hk : k < 43 := by omega
    obtain ⟨v2, h2⟩ : ∃ v, v = opShape ((k : Int) + 1) := ⟨_, rfl⟩
    rw [← h2]
    have H2 := Lib.hid h2
    have hI : (k : Int) < 43 := by omega
    clear h h2
    go_enter Tryd.func18, Tryd.ntmps18
    go_wp2_with (go_at_call 29; refine (refOps_gives _).mono ?_; rintro e w1 ⟨rfl, hT, hb⟩; have hc := (hT.cells k hk).2.2; rw [← H2.out] at hc)
    go_ret
    exact ⟨rfl, hb⟩
  · have hs : opShape op = 0 := by unfold opShape; rw [opAt_no h]
    rw [hs]
    clear hs
    by_cases h1 : op < 1
    · clear h
      go_enter Tryd.func18, Tryd.ntmps18
      go_wp2_with (go_at_call 29; refine (refOps_gives _).mono ?_; rintro e w1 ⟨rfl, hT, hb⟩)
      go_ret
      exact ⟨rfl, hb⟩
    · have h2 : 43 < op := by omega
      clear h
      go_enter Tryd.func18, Tryd.ntmps18
      go_wp2_with (go_at_call 29; refine (refOps_gives _).mono ?_; rintro e w1 ⟨rfl, hT, hb⟩)
      go_ret
      exact ⟨rfl, hb⟩

theorem refSpans_any (op : Int) (w : World) : Calls Tryd.prog 20 #[.int .i64 op] w fun e w' => e = .returned (.bool (spansB op)) ∧ Below w.heap.size w w' := by
  unfold spansB
  have hsh := fun w => refShape_any op w
  obtain ⟨v2, h2⟩ : ∃ v, v = opShape op := ⟨_, rfl⟩
  rw [← h2] at hsh ⊢
  have H := Lib.hid hsh
  clear hsh h2
  by_cases h12 : v2 = 12
  · subst h12
    go_enter Tryd.func20, Tryd.ntmps20
    go_wp2_with (go_at_call 18; refine (H.out _).mono ?_; rintro e w1 ⟨rfl, hb⟩)
    go_ret
    exact ⟨rfl, hb⟩
  · have e12 : (v2 == 12) = false := by simpa using h12
    rw [e12]
    clear h12
    go_enter Tryd.func20, Tryd.ntmps20
    go_wp2_with fail
    refine (H.out _).mono ?_
    rintro e w1 ⟨rfl, hb1⟩
    go_wp2_with (go_at_call 18; refine (H.out _).mono ?_; rintro e w2 ⟨rfl, hb2⟩)
    go_ret
    exact ⟨rfl, hb1.trans (hb2.mono hb1.size)⟩

set_option maxHeartbeats 4000000 in
theorem refSize_any (op f : Int) (w : World) (hop : isOp op = true) (hf : 0 ≤ f ∧ f ≤ 4) : Calls Tryd.prog 25 #[.int .i64 op, .int .i64 f] w fun e w' => e = .returned (.int .i64 (sizeR (opShape op) f)) ∧ Below w.heap.size w w' := by
  have hsh := fun w => refShape_any op w
  have hs := (shape_bounds op).1 hop
  obtain ⟨s, h2⟩ : ∃ v, v = opShape op := ⟨_, rfl⟩
  rw [← h2] at hsh hs ⊢
  have H := Lib.hid hsh
  have f0 := hf.1
  have f1 := hf.2
  clear hsh h2 hf hop
  rcases thirteen hs with rfl | rfl | rfl | rfl | rfl | rfl | rfl | rfl | rfl | rfl | rfl | rfl | rfl
  all_goals
    clear hs
    go_enter Tryd.func25, Tryd.ntmps25
    go_wp2_with (go_at_call 18; refine (H.out _).mono ?_; rintro e w1 ⟨rfl, hb⟩)
    go_ret
    exact ⟨by first | rfl | exact ret_int (by simp [sizeR]), hb⟩

set_option maxHeartbeats 400000 in
theorem refFind_any (s : ByteArray) (w : World) :
    Calls Tryd.prog 17 #[.string s] w fun e w' => e = .returned (.int .i64 (findR s.toList)) ∧ Below w.heap.size w w' := by
  obtain ⟨R, hR⟩ : ∃ R, R = findR s.toList := ⟨_, rfl⟩
  rw [← hR]
  have HR := Lib.hid hR
  clear hR
  go_enter Tryd.func17, Tryd.ntmps17
  go_wp2_with (go_at_call 29; refine (refOps_gives _).mono ?_; rintro e w1 ⟨rfl, hT, hb⟩)
  go_loop [4] (fun i => ∃ k : Nat, i = .int .i64 k ∧ k ≤ 43 ∧ Hid (R = findAt s.toList (43 - k) k)) (fun i => 43 - (intOf i).toNat)
  case atStart => exact ⟨0, rfl, Nat.zero_le _, Lib.hid (by rw [HR.out]; rfl)⟩
  case round =>
    obtain ⟨k, rfl, hk, hf⟩ := hrel
    by_cases hlt : k < 43
    · have hc := (hT.cells k hlt).1
      have hI : (k : Int) < 43 := by omega
      by_cases hN : opName ((k : Int) + 1) = s.toList
      · have hR2 := hf.out
        rw [findAt_hit hlt hN] at hR2
        have hE : (opName ((k : Int) + 1) == s.toList) = true := by simpa using hN
        have HE := Lib.hid hR2
        generalize opName ((k : Int) + 1) = N at hc hE
        clear hf hN hR2
        go_wp2
        go_ret
        exact ⟨by rw [HE.out]; rfl, hb⟩
      · have hR2 := hf.out
        rw [findAt_miss hlt hN] at hR2
        have hE : (opName ((k : Int) + 1) == s.toList) = false := by simpa using hN
        have HE := Lib.hid hR2
        generalize opName ((k : Int) + 1) = N at hc hE
        clear hf hN hR2
        go_wp2
        go_round
        case rel => exact ⟨k + 1, by go_num, by omega, HE⟩
        case measure => simp [intOf]; omega
    · obtain rfl : k = 43 := by omega
      go_wp2
      go_ret
      exact ⟨by rw [hf.out]; rfl, hb⟩
end Go.Proofs.YtfplkmldleigpaaDoor
