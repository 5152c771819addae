/- The walk of Intact at instructions. Conditions: none. -/
import Derived.Test.YtfplkmldleigpaaDoorE5
namespace Go.Proofs.YtfplkmldleigpaaDoor
open Go.RowKit
set_option linter.unusedVariables false
set_option linter.unusedSimpArgs false

set_option maxHeartbeats 1000000 in
theorem intact_inst (F A : Option Addr) (n cF c : Nat) (l : List Ins) (m : Ins) (w : World) (hf : Sl w w.heap.size 5 F (n + 80) (insCells (l ++ List.replicate 80 m))) (hs : Sl w w.heap.size 5 A n (insCells l)) (hc : n + 80 ≤ cF) (hn : n ≤ 1000000) :
    Calls Tryd.prog 43 #[.slice F (n + 80) cF, .slice A n c, m.val] w fun e w' => e = .returned (.bool true) ∧ Below w.heap.size w w' := by
  have hl : l.length = n := by have := hs.len; rw [insCells_length] at this; omega
  have hfr : Sl w w.heap.size 5 F n (insCells l) := by
    have h := hf.front (k := n) (by omega)
    rwa [insCells_take, ← hl, List.take_left, hl] at h
  have hsame : ∀ w', Sl w' w'.heap.size 5 F n (insCells l) → Sl w' w'.heap.size 5 A n (insCells l) → Calls Tryd.prog 53 #[.slice F n cF, .slice A n c] w' fun e w'' => e = .returned (.bool true) ∧ ∃ k, w'' = w'.drewN k :=
    fun w' h1 h2 => same_inst F A n cF c l w' h1 h2 hn
  have hmark : ∀ j, n ≤ j → j < n + 80 → (l ++ List.replicate 80 m)[j]? = some m := by
    intro j h0 h1
    rw [List.getElem?_append_right (by omega), List.getElem?_replicate, if_pos (by omega)]
  have Hs := Lib.hid hsame
  have Hm := Lib.hid hmark
  obtain ⟨mo, ma, mb, mn, mf⟩ := m
  have hfr1 : Sl (w.alloc (.cells #[.int .i64 mo, .int .i64 ma, .int .i64 mb, .int .i32 mn, .int .i64 mf] 35)) (w.alloc (.cells #[.int .i64 mo, .int .i64 ma, .int .i64 mb, .int .i32 mn, .int .i64 mf] 35)).heap.size 5 F n (insCells l) := (hfr.alloc (Nat.le_refl _) _).more (by simp)
  have hs1 : Sl (w.alloc (.cells #[.int .i64 mo, .int .i64 ma, .int .i64 mb, .int .i32 mn, .int .i64 mf] 35)) (w.alloc (.cells #[.int .i64 mo, .int .i64 ma, .int .i64 mb, .int .i32 mn, .int .i64 mf] 35)).heap.size 5 A n (insCells l) := (hs.alloc (Nat.le_refl _) _).more (by simp)
  have hf1 : Sl (w.alloc (.cells #[.int .i64 mo, .int .i64 ma, .int .i64 mb, .int .i32 mn, .int .i64 mf] 35)) w.heap.size 5 F (n + 80) (insCells (l ++ List.replicate 80 ⟨mo, ma, mb, mn, mf⟩)) := hf.alloc (Nat.le_refl _) _
  have Hf := Lib.hid hf1
  have Hfr := Lib.hid hfr1
  have Hs1 := Lib.hid hs1
  clear hsame hmark hl hf hf1 hfr hs hs1 hfr1
  have hI0 : ((n : Int) + 80 != (n : Int) + 80) = false := by simp
  go_enter Tryd.func43, Tryd.ntmps43
  go_wp2_with (go_at_call 53; refine (Hs.out _ Hfr.out Hs1.out).mono ?_; rintro e w' ⟨rfl, kk, rfl⟩)
  go_loopw [7] (fun i wr => ∃ j : Nat, i = .int .i64 j ∧ n ≤ j ∧ j ≤ n + 80 ∧ ∃ q, wr = (w.alloc (.cells #[.int .i64 mo, .int .i64 ma, .int .i64 mb, .int .i32 mn, .int .i64 mf] 35)).drewN q) (fun i _ => n + 80 - (intOf i).toNat)
  case atStart => exact ⟨n, rfl, Nat.le_refl _, by omega, _, rfl⟩
  case round =>
    obtain ⟨j, rfl, hj0, hj1, q, rfl⟩ := hrel
    by_cases hlt : j < n + 80
    · obtain ⟨b, o, rfl, hb, hhas⟩ := Hf.out.at_ (by omega)
      obtain ⟨x0, x1, x2, x3, x4⟩ := ins_at hhas (Hm.out j hj0 hlt)
      have hm := Blk.new w 35 [.int .i64 mo, .int .i64 ma, .int .i64 mb, .int .i32 mn, .int .i64 mf]
      have hm0 := hm.cell 0
      have hm1 := hm.cell 1
      have hm2 := hm.cell 2
      have hm3 := hm.cell 3
      have hm4 := hm.cell 4
      simp only [List.getElem?_cons_zero, List.getElem?_cons_succ] at x0 x1 x2 x3 x4 hm0 hm1 hm2 hm3 hm4
      clear hm hhas
      have hI : (j : Int) < (n : Int) + 80 := by omega
      go_wp2
      go_quiet (fail)
      go_wp2
      go_roundw
      case rel => exact ⟨j + 1, by go_num, by omega, by omega, q + nq, rfl⟩
      case measure => simp [intOf]; omega
    · obtain rfl : j = n + 80 := by omega
      go_wp2
      go_ret
      exact ⟨rfl, below_drewN ((Below.refl _ _).alloc (Nat.le_refl _) _) _⟩
end Go.Proofs.YtfplkmldleigpaaDoor
