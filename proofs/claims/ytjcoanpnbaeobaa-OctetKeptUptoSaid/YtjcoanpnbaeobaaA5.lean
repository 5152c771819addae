/- The walks of Get, octet's and the reference's. -/
import Derived.Test.YtjcoanpnbaeobaaA1
import Derived.Test.YtjcoanpnbaeobaaP3
namespace Go.Proofs.Ytjcoanpnbaeobaa
open Go.RowKit
set_option linter.unusedVariables false

theorem get_arg (A : Option Addr) (n c : Nat) (at_ width : Int) (w : World) (h : legalB width = false ∨ at_ < 0 ∨ (n : Int) < at_) :
    Calls Try.prog 24 #[.slice A n c, .int .i64 at_, .int .i64 width] w fun e w' => e = .returned (.tuple #[.int .u32 0, .int .i64 1]) ∧ w = w' := by
  by_cases hl : legalB width = false
  · go_enter Try.func24, Try.ntmps24
    go_wp2_with (go_at_call 28; refine (legal_any _ _).mono ?_; rintro e w' ⟨rfl, rfl⟩)
    go_ret2
    exact ⟨rfl, rfl⟩
  · have hl2 : legalB width = true := by simpa using hl
    by_cases ha : at_ < 0
    · clear h hl
      go_enter Try.func24, Try.ntmps24
      go_wp2_with (go_at_call 28; refine (legal_any _ _).mono ?_; rintro e w' ⟨rfl, rfl⟩)
      go_ret2
      exact ⟨rfl, rfl⟩
    · have hb : (n : Int) < at_ := by
        rcases h with h | h | h
        · exact absurd h hl
        · exact absurd h ha
        · exact h
      have ha2 : 0 ≤ at_ := by omega
      clear h hl ha
      go_enter Try.func24, Try.ntmps24
      go_wp2_with (go_at_call 28; refine (legal_any _ _).mono ?_; rintro e w' ⟨rfl, rfl⟩)
      go_ret2
      exact ⟨rfl, rfl⟩

theorem get_end (A : Option Addr) (n c : Nat) (at_ width : Int) (w : World) (hl2 : legalB width = true) (ha : 0 ≤ at_) (hb : at_ ≤ n) (hn : n ≤ maxLen) (h : (n : Int) - at_ < width) :
    Calls Try.prog 24 #[.slice A n c, .int .i64 at_, .int .i64 width] w fun e w' => e = .returned (.tuple #[.int .u32 0, .int .i64 10]) ∧ w = w' := by
  unfold maxLen at hn
  go_enter Try.func24, Try.ntmps24
  go_wp2_with (go_at_call 28; refine (legal_any _ _).mono ?_; rintro e w' ⟨rfl, rfl⟩)
  go_ret2
  exact ⟨rfl, rfl⟩

set_option maxHeartbeats 400000 in
theorem get_ok (A : Option Addr) (n c a W : Nat) (l : List UInt8) (w : World) (hs : Sl w w.heap.size 1 A n (bs l)) (hl2 : legalB (W : Int) = true) (hW : W ≤ 4) (hn : n ≤ maxLen) (h : a + W ≤ n) :
    Calls Try.prog 24 #[.slice A n c, .int .i64 a, .int .i64 W] w fun e w' => e = .returned (.tuple #[.int .u32 (leVal ((l.drop a).take W)), .int .i64 0]) ∧ w = w' := by
  unfold maxLen at hn
  obtain ⟨R, hR⟩ : ∃ R, R = leVal ((l.drop a).take W) := ⟨_, rfl⟩
  rw [← hR]
  have HR := Lib.hid hR
  clear hR
  go_enter Try.func24, Try.ntmps24
  go_wp2_with (go_at_call 28; refine (legal_any _ _).mono ?_; rintro e w' ⟨rfl, rfl⟩)
  go_loop [8, 9] (fun y i => ∃ (m : Nat) (q z : Int), m ≤ W ∧ i = .int .i64 q ∧ Hid (q = (m : Int) - 1) ∧ y = .int .u32 z ∧ 0 ≤ z ∧ z < 4294967296 ∧ Hid (z = leVal ((l.drop (a + m)).take (W - m)))) (fun _ i => (intOf i + 1).toNat)
  case atStart => exact ⟨W, (W : Int) - 1, 0, Nat.le_refl _, rfl, Lib.hid rfl, rfl, by omega, by omega, Lib.hid (by simp [leVal])⟩
  case round =>
    obtain ⟨m, q, z, hm, rfl, hq, rfl, hz0, hz1, hz⟩ := hrel
    match m, hm, hq, hz with
    | 0, hm, hq, hz =>
      obtain rfl : q = -1 := by have := hq.out; omega
      go_wp2
      go_ret2
      exact ⟨by rw [show z = R from by rw [hz.out, HR.out]; simp]; rfl, rfl⟩
    | k + 1, hm, hq, hz =>
      obtain rfl : q = (k : Int) := by have := hq.out; omega
      obtain ⟨b, o, x, rfl, hb, hx, hc⟩ := hs.byte (k := a + k) (by omega)
      have Hx := Lib.hid hx
      clear hx
      have hs1 : z < 16777216 := by rw [hz.out]; exact leVal_small (by omega) hW
      have hor := or_low z x hz0 hs1
      have hx8 : x.toNat < 256 := x.toNat_lt
      have hI : (a : Int) + k < n := by omega
      go_wp2
      go_round
      case rel => exact ⟨k, (k : Int) - 1, z * 256 + x.toNat, by omega, rfl, Lib.hid rfl, rfl, by omega, by omega, Lib.hid (by rw [leVal_step Hx.out (by omega), ← hz.out]; omega)⟩
      case measure => simp [intOf]

theorem tup_ui {k k2 : IntKind} {a b c d : Int} (h1 : a = b) (h2 : c = d) : Ending.returned (.tuple #[.int k a, .int k2 c]) = .returned (.tuple #[.int k b, .int k2 d]) := by rw [h1, h2]

/-- Get, at any arguments -/
theorem get_any (A : Option Addr) (n c : Nat) (l : List UInt8) (at_ width : Int) (w : World) (hs : Sl w w.heap.size 1 A n (bs l)) (hn : n ≤ maxLen) :
    Calls Try.prog 24 #[.slice A n c, .int .i64 at_, .int .i64 width] w fun e w' => e = .returned (.tuple #[.int .u32 (getR l at_ width).1, .int .i64 (getR l at_ width).2]) ∧ w = w' := by
  have hl : l.length = n := by have := hs.len; rw [bs_length] at this; omega
  by_cases h : legalB width = false ∨ at_ < 0 ∨ (n : Int) < at_
  · rw [getR_arg (by rw [hl]; exact h)]
    exact get_arg A n c at_ width w h
  · have h1 : legalB width = true := by
      cases e : legalB width
      · exact absurd (.inl e) h
      · rfl
    have h2 : 0 ≤ at_ := by omega
    have h3 : at_ ≤ n := by omega
    by_cases h4 : (n : Int) - at_ < width
    · rw [getR_end h1 h2 (by rw [hl]; exact h3) (by rw [hl]; exact h4)]
      exact get_end A n c at_ width w h1 h2 h3 hn h4
    · rw [getR_ok h1 h2 (by rw [hl]; exact h3) (by rw [hl]; omega)]
      obtain ⟨a, rfl⟩ := Int.eq_ofNat_of_zero_le h2
      have hW : width = 1 ∨ width = 2 ∨ width = 4 := by
        rcases width_cases width with h | h | h | h
        · exact .inl h
        · exact .inr (.inl h)
        · exact .inr (.inr h)
        · rw [legalB_not h] at h1; cases h1
      obtain ⟨W, rfl⟩ := Int.eq_ofNat_of_zero_le (show 0 ≤ width by omega)
      exact get_ok A n c a W l w hs h1 (by omega) hn (by omega)

/-! ### the reference's -/
theorem refGet_arg1 (A : Option Addr) (n c : Nat) (at_ width : Int) (w : World) (h : width ≠ 1 ∧ width ≠ 2 ∧ width ≠ 4) :
    Calls Try.prog 25 #[.slice A n c, .int .i64 at_, .int .i64 width] w fun e w' => e = .returned (.tuple #[.int .u32 0, .int .i64 1]) ∧ w = w' := by
  obtain ⟨a1, a2, a3⟩ := h
  have e1 : (width != 1) = true := by simpa using a1
  have e2 : (width != 2) = true := by simpa using a2
  have e3 : (width != 4) = true := by simpa using a3
  clear a1 a2 a3
  go_enter Try.func25, Try.ntmps25
  go_wp2
  go_ret2
  exact ⟨rfl, rfl⟩
theorem ref_tests_int {W : Int} (hW : W = 1 ∨ W = 2 ∨ W = 4) :
    (W != 1) = false ∨ ((W != 1) = true ∧ (W != 2) = false) ∨ ((W != 1) = true ∧ (W != 2) = true ∧ (W != 4) = false) := by
  rcases hW with rfl | rfl | rfl <;> simp
set_option maxHeartbeats 400000 in
theorem refGet_arg2 (A : Option Addr) (n c : Nat) (at_ width : Int) (w : World) (hW : width = 1 ∨ width = 2 ∨ width = 4) (h : at_ < 0 ∨ (n : Int) < at_) :
    Calls Try.prog 25 #[.slice A n c, .int .i64 at_, .int .i64 width] w fun e w' => e = .returned (.tuple #[.int .u32 0, .int .i64 1]) ∧ w = w' := by
  have key := ref_tests_int hW
  clear hW
  by_cases ha : at_ < 0
  · clear h
    rcases key with e1 | ⟨e1, e2⟩ | ⟨e1, e2, e3⟩
    all_goals
      go_enter Try.func25, Try.ntmps25
      go_wp2
      go_ret2
      exact ⟨rfl, rfl⟩
  · have hb : (n : Int) < at_ := by omega
    have ha2 : 0 ≤ at_ := by omega
    clear h ha
    rcases key with e1 | ⟨e1, e2⟩ | ⟨e1, e2, e3⟩
    all_goals
      go_enter Try.func25, Try.ntmps25
      go_wp2
      go_ret2
      exact ⟨rfl, rfl⟩
set_option maxHeartbeats 400000 in
theorem refGet_end (A : Option Addr) (n c : Nat) (at_ width : Int) (w : World) (hW : width = 1 ∨ width = 2 ∨ width = 4) (ha : 0 ≤ at_) (hb : at_ ≤ n) (hn : n ≤ maxLen) (h : (n : Int) - at_ < width) :
    Calls Try.prog 25 #[.slice A n c, .int .i64 at_, .int .i64 width] w fun e w' => e = .returned (.tuple #[.int .u32 0, .int .i64 10]) ∧ w = w' := by
  unfold maxLen at hn
  have key := ref_tests_int hW
  clear hW
  rcases key with e1 | ⟨e1, e2⟩ | ⟨e1, e2, e3⟩
  all_goals
    go_enter Try.func25, Try.ntmps25
    go_wp2
    go_ret2
    exact ⟨rfl, rfl⟩
set_option maxHeartbeats 1600000 in
theorem refGet_ok (A : Option Addr) (n c a W : Nat) (l : List UInt8) (w : World) (hs : Sl w w.heap.size 1 A n (bs l)) (hW : (W : Int) = 1 ∨ (W : Int) = 2 ∨ (W : Int) = 4) (hn : n ≤ maxLen) (h : a + W ≤ n) :
    Calls Try.prog 25 #[.slice A n c, .int .i64 a, .int .i64 W] w fun e w' => e = .returned (.tuple #[.int .u32 (leVal ((l.drop a).take W)), .int .i64 0]) ∧ w = w' := by
  unfold maxLen at hn
  obtain ⟨R, hR⟩ : ∃ R, R = leVal ((l.drop a).take W) := ⟨_, rfl⟩
  rw [← hR]
  have HR := Lib.hid hR
  clear hR
  have hW4 : W ≤ 4 := by omega
  have key := ref_tests_int hW
  clear hW
  rcases key with e1 | ⟨e1, e2⟩ | ⟨e1, e2, e3⟩
  all_goals
    go_enter Try.func25, Try.ntmps25
    go_wp2
    go_loop [8, 9] (fun y i => ∃ (m : Nat) (q z : Int), m ≤ W ∧ i = .int .i64 q ∧ Hid (q = (m : Int) - 1) ∧ y = .int .u32 z ∧ 0 ≤ z ∧ z < 4294967296 ∧ Hid (z = leVal ((l.drop (a + m)).take (W - m)))) (fun _ i => (intOf i + 1).toNat)
    case atStart => exact ⟨W, (W : Int) - 1, 0, Nat.le_refl _, rfl, Lib.hid rfl, rfl, by omega, by omega, Lib.hid (by simp [leVal])⟩
    case round =>
      obtain ⟨m, q, z, hm, rfl, hq, rfl, hz0, hz1, hz⟩ := hrel
      match m, hm, hq, hz with
      | 0, hm, hq, hz =>
        obtain rfl : q = -1 := by have := hq.out; omega
        go_wp2
        go_ret2
        exact ⟨by rw [show z = R from by rw [hz.out, HR.out]; simp]; rfl, rfl⟩
      | k + 1, hm, hq, hz =>
        obtain rfl : q = (k : Int) := by have := hq.out; omega
        obtain ⟨b, o, x, rfl, hb, hx, hc⟩ := hs.byte (k := a + k) (by omega)
        have Hx := Lib.hid hx
        clear hx
        have hs1 : z < 16777216 := by rw [hz.out]; exact leVal_small (by omega) hW4
        have hx8 : x.toNat < 256 := x.toNat_lt
        have hI : (a : Int) + k < n := by omega
        go_wp2
        go_round
        case rel => exact ⟨k, (k : Int) - 1, z * 256 + x.toNat, by omega, rfl, Lib.hid rfl, rfl, by omega, by omega, Lib.hid (by rw [leVal_step Hx.out (by omega), ← hz.out]; omega)⟩
        case measure => simp [intOf]
/-- the reference's Get, at any arguments -/
theorem refGet_any (A : Option Addr) (n c : Nat) (l : List UInt8) (at_ width : Int) (w : World) (hs : Sl w w.heap.size 1 A n (bs l)) (hn : n ≤ maxLen) :
    Calls Try.prog 25 #[.slice A n c, .int .i64 at_, .int .i64 width] w fun e w' => e = .returned (.tuple #[.int .u32 (getR l at_ width).1, .int .i64 (getR l at_ width).2]) ∧ w = w' := by
  have hl : l.length = n := by have := hs.len; rw [bs_length] at this; omega
  by_cases hW : width = 1 ∨ width = 2 ∨ width = 4
  · have h1 : legalB width = true := by rcases hW with rfl | rfl | rfl <;> rfl
    by_cases h : at_ < 0 ∨ (n : Int) < at_
    · rw [getR_arg (by rw [hl]; exact .inr h)]
      exact refGet_arg2 A n c at_ width w hW h
    · have h2 : 0 ≤ at_ := by omega
      have h3 : at_ ≤ n := by omega
      by_cases h4 : (n : Int) - at_ < width
      · rw [getR_end h1 h2 (by rw [hl]; exact h3) (by rw [hl]; exact h4)]
        exact refGet_end A n c at_ width w hW h2 h3 hn h4
      · rw [getR_ok h1 h2 (by rw [hl]; exact h3) (by rw [hl]; omega)]
        obtain ⟨a, rfl⟩ := Int.eq_ofNat_of_zero_le h2
        obtain ⟨W, rfl⟩ := Int.eq_ofNat_of_zero_le (show 0 ≤ width by omega)
        exact refGet_ok A n c a W l w hs hW hn (by omega)
  · rw [getR_arg (.inl (legalB_not (by omega)))]
    exact refGet_arg1 A n c at_ width w (by omega)
end Go.Proofs.Ytjcoanpnbaeobaa
