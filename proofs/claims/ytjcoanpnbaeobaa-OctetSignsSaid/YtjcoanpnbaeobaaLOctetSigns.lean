/- Law OctetSigns: for every number and every width, octet's Signed and Fits answer as the reference's. Conditions: none. -/
import Derived.Test.YtjcoanpnbaeobaaA6
namespace Go.Proofs.Ytjcoanpnbaeobaa.octetSigns
open Go.RowKit
set_option linter.unusedVariables false

theorem walk (w : World) (a0 : Int) (b0 : 0 ≤ a0 ∧ a0 ≤ 4294967295) (a1 : Int) (b1 : -9223372036854775808 ≤ a1 ∧ a1 ≤ 9223372036854775807) :
    Calls Try.prog 3 #[.int .u32 a0, .int .i64 a1] w fun e w' => e = .returned (.bool true) ∧ Below w.heap.size w w' := by
  have h0 : 0 ≤ a0 := b0.1
  have h1 : a0 < 4294967296 := by omega
  have hw : -2147483648 ≤ wrap32 a0 ∧ wrap32 a0 ≤ 2147483647 := by unfold wrap32; omega
  obtain ⟨v0, v1⟩ := hw
  clear b0 b1
  go_enter Try.func3, Try.ntmps3
  go_wp2_with (first
    | (go_at_call 9; refine (signed_any _ _ _ h0 h1).mono ?_; rintro e w' ⟨rfl, rfl⟩)
    | (go_at_call 10; refine (refSigned_any _ _ _ h0 h1).mono ?_; rintro e w' ⟨rfl, rfl⟩)
    | (go_at_call 11; refine (fits_any _ _ _ v0 v1).mono ?_; rintro e w' ⟨rfl, rfl⟩)
    | (go_at_call 12; refine (refFits_any _ _ _ v0 v1).mono ?_; rintro e w' ⟨rfl, rfl⟩)
    | (go_at_call 13; refine (known1_any _).mono ?_; rintro e w' ⟨rfl, hb⟩))
  go_ret
  exact ⟨rfl, hb⟩
end Go.Proofs.Ytjcoanpnbaeobaa.octetSigns
