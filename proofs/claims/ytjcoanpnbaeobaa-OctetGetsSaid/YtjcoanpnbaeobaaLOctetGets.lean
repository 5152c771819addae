/- Law OctetGets: for any bytes, any place, any width, any bound, octet's Get and GetText answer as the reference's, and what was handed in stays. Conditions: none. -/
import Derived.Test.YtjcoanpnbaeobaaA6
import Derived.Test.YtjcoanpnbaeobaaA7
import Derived.Test.YtjcoanpnbaeobaaA8
namespace Go.Proofs.Ytjcoanpnbaeobaa.octetGets
open Go.RowKit
set_option linter.unusedVariables false

theorem getR_err (l : List UInt8) (at_ width : Int) : 0 ≤ (getR l at_ width).2 ∧ (getR l at_ width).2 ≤ 10 := by
  unfold getR
  split
  · simp
  split <;> simp
theorem getTextR_err (l : List UInt8) (at_ most : Int) : 0 ≤ (getTextR l at_ most).2.2 ∧ (getTextR l at_ most).2.2 ≤ 10 := by
  have h := getR_err l at_ 2
  unfold getTextR
  split
  · exact h
  split
  · simp
  split <;> simp

set_option maxHeartbeats 1000000 in
theorem walk (w : World) (A : Option Addr) (n c : Nat) (l : List UInt8) (hs : Sl w w.heap.size 1 A n (bs l)) (hc : n ≤ c) (hn : n * 1 ≤ 140737488351232) (at_ : Int) (b1 : -9223372036854775808 ≤ at_ ∧ at_ ≤ 9223372036854775807)
    (width : Int) (b2 : -9223372036854775808 ≤ width ∧ width ≤ 9223372036854775807) (most : Int) (b3 : -9223372036854775808 ≤ most ∧ most ≤ 9223372036854775807) :
    Calls Try.prog 6 #[.slice A n c, .int .i64 at_, .int .i64 width, .int .i64 most] w fun e w' => e = .returned (.bool true) ∧ Below w.heap.size w w' := by
  have hl : l.length = n := by have := hs.len; rw [bs_length] at this; omega
  have hn2 : n ≤ 140737488351232 := by omega
  obtain ⟨R, hR⟩ : ∃ R, R = getR l at_ width := ⟨_, rfl⟩
  obtain ⟨T, hT⟩ : ∃ T, T = getTextR l at_ most := ⟨_, rfl⟩
  have hget : ∀ (F : Option Addr) (C : Nat) (W : World), Sl W W.heap.size 1 F n (bs l) → Calls Try.prog 24 #[.slice F n C, .int .i64 at_, .int .i64 width] W fun e w' => e = .returned (.tuple #[.int .u32 R.1, .int .i64 R.2]) ∧ W = w' := by
    intro F C W h
    rw [hR]
    exact get_any F n C l at_ width W h (by unfold maxLen; omega)
  have hrget : ∀ (F : Option Addr) (C : Nat) (W : World), Sl W W.heap.size 1 F n (bs l) → Calls Try.prog 25 #[.slice F n C, .int .i64 at_, .int .i64 width] W fun e w' => e = .returned (.tuple #[.int .u32 R.1, .int .i64 R.2]) ∧ W = w' := by
    intro F C W h
    rw [hR]
    exact refGet_any F n C l at_ width W h (by unfold maxLen; omega)
  have htext : ∀ (F : Option Addr) (C : Nat) (W : World), n ≤ C → Sl W W.heap.size 1 F n (bs l) → Calls Try.prog 26 #[.slice F n C, .int .i64 at_, .int .i64 most] W (GivesText W T) := by
    intro F C W hC h
    rw [hT]
    exact getText_any F n C l at_ most W h hC hn2 b1
  have hrtext : ∀ (F : Option Addr) (C : Nat) (W : World), n ≤ C → Sl W W.heap.size 1 F n (bs l) → Calls Try.prog 27 #[.slice F n C, .int .i64 at_, .int .i64 most] W (GivesText W T) := by
    intro F C W hC h
    rw [hT]
    exact refGetText_any F n C l at_ most W h hC hn2 b1
  have hR2 := getR_err l at_ width
  have hT2 := getTextR_err l at_ most
  rw [← hR] at hR2
  rw [← hT] at hT2
  obtain ⟨R1, R2⟩ := R
  obtain ⟨T1, T2, T3⟩ := T
  obtain ⟨r0, r1⟩ := hR2
  obtain ⟨t0, t1⟩ := hT2
  simp only at r0 r1 t0 t1
  have Hget := Lib.hid hget
  have Hrget := Lib.hid hrget
  have Htext := Lib.hid htext
  have Hrtext := Lib.hid hrtext
  clear hget hrget htext hrtext hR hT b1 b2 b3 hl
  go_enter Try.func6, Try.ntmps6
  go_wp2_with (first
    | (go_at_call 14; refine (roomy_u8 A n c l 165 w hs (by omega)).mono ?_; rintro e w1 ⟨rfl, hblk, hb⟩; have sf : Sl w1 w1.heap.size 1 (some ⟨w.heap.size, 0, none⟩) (n + 80) (bs (l ++ List.replicate 80 165)) := hblk.sl (by (have := hs.len; simp [bs_length] at this ⊢; omega)); have sa := (hs.below hb).more hb.size; have sfr : Sl w1 w1.heap.size 1 (some ⟨w.heap.size, 0, none⟩) n (bs l) := by (have h := sf.front (k := n) (by omega); have h2 := hs.len; rw [bs_length, Nat.mul_one] at h2; rwa [Nat.mul_one, bs_take, List.take_left' h2] at h))
    | (go_at_call 24; refine (Hget.out (some ⟨w.heap.size, 0, none⟩) (n + 80) w1 sfr).mono ?_; rintro e w' ⟨rfl, rfl⟩)
    | (go_at_call 25; refine (Hrget.out A c w1 sa).mono ?_; rintro e w' ⟨rfl, rfl⟩)
    | (go_at_call 26; refine (Htext.out (some ⟨w.heap.size, 0, none⟩) (n + 80) w1 (by omega) sfr).mono ?_; rintro e w' ⟨rfl, rfl⟩)
    | (go_at_call 27; refine (Hrtext.out A c w1 hc sa).mono ?_; rintro e w' ⟨rfl, rfl⟩)
    | (go_at_call 20; refine (intact_u8 (some ⟨w.heap.size, 0, none⟩) A n (n + 80) c l 165 w1 sf sa (Nat.le_refl _) (by omega)).mono ?_; rintro e w' ⟨rfl, kk, rfl⟩)
    | (go_at_call 13; refine (known1_any _).mono ?_; rintro e w2 ⟨rfl, hb2⟩))
  go_ret
  exact ⟨rfl, (below_drewN hb kk).trans (hb2.mono hb.size)⟩
end Go.Proofs.Ytjcoanpnbaeobaa.octetGets
