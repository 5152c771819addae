/- The walk of decode's told: a number in bytes. Conditions: none. -/
import Derived.Test.YthcjnkakfpmpbaaDoorD2
import Derived.Test.YthcjnkakfpmpbaaDoorA5d
namespace Go.Proofs.YthcjnkakfpmpbaaDoor
open Go.RowKit
set_option linter.unusedVariables false
set_option linter.unusedSimpArgs false

/-- the number that told tells -/
def toldR (l : List UInt8) (at_ width s : Int) : Int := if s = 9 ∨ s = 11 then (getR l at_ width).1 else sgn (getR l at_ width).1 width

theorem told_any (A : Option Addr) (n c : Nat) (l : List UInt8) (at_ width s : Int) (w : World) (hs : Sl w w.heap.size 1 A n (bs l)) (hn : n ≤ maxLen) (hw : s = 9 ∨ s = 11 → (getR l at_ width).1 < 2147483648) :
    Calls Tryd.prog 45 #[.slice A n c, .int .i64 at_, .int .i64 width, .int .i64 s] w fun e w' => e = .returned (.int .i32 (toldR l at_ width s)) ∧ w = w' := by
  have hg := get_any A n c l at_ width w hs hn
  have hb := getR_bounds l at_ width
  have hsg := fun w => signed_any (getR l at_ width).1 width w hb.1 hb.2
  unfold toldR
  generalize (getR l at_ width).1 = v at *
  generalize (getR l at_ width).2 = y at *
  obtain ⟨hb0, hb1⟩ := hb
  have Hg := Lib.hid hg
  have Hsg := Lib.hid hsg
  clear hg hsg
  by_cases h : s = 9 ∨ s = 11
  · have hv := hw h
    rw [if_pos h]
    rcases h with rfl | rfl
    all_goals
      go_enter Tryd.func45, Tryd.ntmps45
      go_wp2_with (go_at_call 72; refine (Hg.out).mono ?_; rintro e w' ⟨rfl, rfl⟩)
      go_ret
      exact ⟨rfl, rfl⟩
  · rw [if_neg h]
    rw [not_or] at h
    have h9 : (s == 9) = false := by simpa using h.1
    have h11 : (s == 11) = false := by simpa using h.2
    clear h hw
    go_enter Tryd.func45, Tryd.ntmps45
    go_wp2_with (first
      | (go_at_call 72; refine (Hg.out).mono ?_; rintro e w' ⟨rfl, rfl⟩)
      | (go_at_call 73; refine (Hsg.out _).mono ?_; rintro e w' ⟨rfl, rfl⟩))
    go_ret
    exact ⟨rfl, rfl⟩
end Go.Proofs.YthcjnkakfpmpbaaDoor
