/- The walk of law 6's known run. Conditions: none. -/
import Derived.Test.YtfplkmldleigpaaDoorE1k
import Derived.Test.YtfplkmldleigpaaDoorP9
import Derived.Test.YtfplkmldleigpaaDoorP3
namespace Go.Proofs.YtfplkmldleigpaaDoor
open Go.RowKit
set_option linter.unusedVariables false
set_option linter.unusedSimpArgs false

theorem k6_enc (w : World) (hT : TabIs 0 w) : Calls Tryd.prog 34 #[.agg #[.int .i64 38, .int .i64 3, .int .i64 0, .int .i32 (-2), .int .i64 0]] w (GivesE w [50, 3, 254, 255, 255, 255]) := by
  have := encode_yes 38 3 0 (-2) 0 w hT (by omega) (by decide +kernel)
  rw [show encR 38 3 0 (-2) 0 = [50, 3, 254, 255, 255, 255] from by decide +kernel] at this
  exact this
theorem str_lit {w : World} {A : Option Addr} {n c : Nat} {l : List UInt8} (hs : Sl w w.heap.size 1 A n (bs l)) (hA : A = none → n = 0) : ∀ (W : World), W = w → (convert 55 9 (.slice A n c)).run Tryd.prog W = .ok (.string ⟨l.toArray⟩) W := by
  rintro W rfl
  exact run_str _ _ 5 Tryd.underlying55 Tryd.underlying5 Tryd.underlying9 hs hA
theorem known6_any (w : World) (hT : TabIs 0 w) : Calls Tryd.prog 37 #[] w fun e w' => e = .returned (.bool true) ∧ Below w.heap.size w w' := by
  have Hk := Lib.hid (fun w hT => k6_enc w hT)
  go_enter Tryd.func37, Tryd.ntmps37
  go_wp2_with (go_at_call 34; refine (Hk.out _ hT).mono ?_; rintro e w1 ⟨A1, n1, c1, rfl, hc1, hs1, hb1⟩; obtain ⟨b1, o1, rfl, hbl1, _⟩ := hs1.at_ (by have := hs1.len; simp [bs] at this; omega); have hstr := str_lit (c := c1) hs1 (fun h => by cases h))
  go_ret
  exact ⟨rfl, hb1⟩
end Go.Proofs.YtfplkmldleigpaaDoor
