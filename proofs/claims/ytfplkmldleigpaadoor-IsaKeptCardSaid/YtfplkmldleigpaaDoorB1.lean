/- The walks of isa's At, Spans, below, Reaches. -/
import Derived.Test.YtfplkmldleigpaaDoorRows
import Derived.Test.YtfplkmldleigpaaDoorP6
import Derived.Outline
import Derived.WalkLawsBesides
import Derived.Lib.Hide
namespace Go.Proofs.YtfplkmldleigpaaDoor
open Go.RowKit
set_option linter.unusedVariables false

theorem at_no (op : Int) (w : World) (h : ¬ (1 ≤ op ∧ op ≤ 43)) :
    Calls Tryd.prog 16 #[.int .i64 op] w fun e w' => e = .returned (.tuple #[.agg #[.string ⟨#[]⟩, .int .u8 0, .int .i64 0], .bool false]) ∧ Below w.heap.size w w' := by
  by_cases h1 : op < 1
  · clear h
    go_enter Tryd.func16, Tryd.ntmps16
    go_wp2
    exact bodyPost_ret (v := .tuple #[.agg #[.string ⟨#[]⟩, .int .u8 0, .int .i64 0], .bool false]) (by simp [results, Tryd.results16, go_sem]) rfl ⟨rfl, (Below.refl _ _).alloc (Nat.le_refl _) _⟩
  · have h2 : 43 < op := by omega
    clear h
    go_enter Tryd.func16, Tryd.ntmps16
    go_wp2
    exact bodyPost_ret (v := .tuple #[.agg #[.string ⟨#[]⟩, .int .u8 0, .int .i64 0], .bool false]) (by simp [results, Tryd.results16, go_sem]) rfl ⟨rfl, (Below.refl _ _).alloc (Nat.le_refl _) _⟩
theorem at_yes (k : Nat) (w : World) (hk : k < 43) (hT : TabIs 0 w) :
    Calls Tryd.prog 16 #[.int .i64 ((k : Int) + 1)] w fun e w' => e = .returned (.tuple #[opVal ((k : Int) + 1), .bool true]) ∧ Below w.heap.size w w' := by
  obtain ⟨c0, c1, c2⟩ := hT.cells k hk
  have hg := hT.lt
  have hI : (k : Int) < 43 := by omega
  unfold opVal
  obtain ⟨v0, h0⟩ : ∃ v, v = (opName ((k : Int) + 1)).toArray := ⟨_, rfl⟩
  obtain ⟨v1, h1⟩ : ∃ v, v = opByte ((k : Int) + 1) := ⟨_, rfl⟩
  obtain ⟨v2, h2⟩ : ∃ v, v = opShape ((k : Int) + 1) := ⟨_, rfl⟩
  rw [← h0] at c0 ⊢
  rw [← h1] at c1 ⊢
  rw [← h2] at c2 ⊢
  clear hT h0 h1 h2
  go_enter Tryd.func16, Tryd.ntmps16
  go_wp2
  exact bodyPost_ret (v := .tuple #[.agg #[.string ⟨v0⟩, .int .u8 v1, .int .i64 v2], .bool true]) (by simp [results, Tryd.results16, go_sem]) rfl ⟨rfl, (Below.refl _ _).alloc (Nat.le_refl _) _⟩
/-- At, of any number -/
theorem at_any (op : Int) (w : World) (hT : TabIs 0 w) :
    Calls Tryd.prog 16 #[.int .i64 op] w fun e w' => e = .returned (.tuple #[.agg #[.string ⟨(opName op).toArray⟩, .int .u8 (opByte op), .int .i64 (opShape op)], .bool (isOp op)]) ∧ Below w.heap.size w w' := by
  by_cases h : 1 ≤ op ∧ op ≤ 43
  · obtain ⟨k, rfl⟩ : ∃ k : Nat, op = (k : Int) + 1 := ⟨(op - 1).toNat, by omega⟩
    have hk : k < 43 := by omega
    rw [isOp_yes k hk]
    exact at_yes k w hk hT
  · have := at_no op w h
    unfold opName opByte opShape
    rw [opAt_no h, isOp_no h]
    exact this


theorem spans_any (op : Int) (w : World) (hT : TabIs 0 w) :
    Calls Tryd.prog 19 #[.int .i64 op] w fun e w' => e = .returned (.bool (spansB op)) ∧ Below w.heap.size w w' := by
  unfold spansB
  have hat := at_any op w hT
  obtain ⟨v2, h2⟩ : ∃ v, v = opShape op := ⟨_, rfl⟩
  rw [← h2] at hat ⊢
  have H := Lib.hid hat
  clear hat h2
  by_cases h12 : v2 = 12
  · subst h12
    go_enter Tryd.func19, Tryd.ntmps19
    go_wp2_with (go_at_call 16; refine H.out.mono ?_; rintro e w1 ⟨rfl, hb⟩)
    go_ret
    exact ⟨rfl, hb.alloc hb.size _⟩
  · have e12 : (v2 == 12) = false := by simpa using h12
    rw [e12]
    clear h12
    go_enter Tryd.func19, Tryd.ntmps19
    go_wp2_with (go_at_call 16; refine H.out.mono ?_; rintro e w1 ⟨rfl, hb⟩)
    go_ret
    exact ⟨rfl, hb.alloc hb.size _⟩

theorem below_any (n most : Int) (w : World) :
    Calls Tryd.prog 54 #[.int .i64 n, .int .i64 most] w fun e w' => e = .returned (.bool (decide (0 ≤ n) && decide (n < most))) ∧ w = w' := by
  by_cases h : 0 ≤ n
  · by_cases h2 : n < most
    all_goals
      go_enter Tryd.func54, Tryd.ntmps54
      go_wp2
      go_ret
      exact ⟨ret_bool (by simp; omega), rfl⟩
  · go_enter Tryd.func54, Tryd.ntmps54
    go_wp2
    go_ret
    exact ⟨ret_bool (by simp; omega), rfl⟩

theorem reaches_any (n form : Int) (w : World) (h0 : -2147483648 ≤ n) (h1 : n ≤ 2147483647) :
    Calls Tryd.prog 21 #[.int .i32 n, .int .i64 form] w fun e w' => e = .returned (.bool (fitsB n form)) ∧ w = w' := by
  rcases width_cases form with rfl | rfl | rfl | h
  · go_enter Tryd.func21, Tryd.ntmps21
    go_wp2
    go_ret
    exact ⟨ret_bool (by show (n == wrap32 (IntKind.i8.wrap n)) = _; rw [wrap_i8, Bool.eq_iff_iff]; simp [fitsB, wrap32]; omega), rfl⟩
  · go_enter Tryd.func21, Tryd.ntmps21
    go_wp2
    go_ret
    exact ⟨ret_bool (by show (n == wrap32 (IntKind.i16.wrap n)) = _; rw [wrap_i16, Bool.eq_iff_iff]; simp [fitsB, wrap32]; omega), rfl⟩
  · go_enter Tryd.func21, Tryd.ntmps21
    go_wp2
    go_ret
    exact ⟨rfl, rfl⟩
  · rw [fitsB_not h]
    obtain ⟨a, b, c⟩ := h
    have e1 : (form == 1) = false := by simpa using a
    have e2 : (form == 2) = false := by simpa using b
    have e3 : (form == 4) = false := by simpa using c
    clear a b c
    go_enter Tryd.func21, Tryd.ntmps21
    go_wp2
    go_ret
    exact ⟨rfl, rfl⟩
end Go.Proofs.YtfplkmldleigpaaDoor
