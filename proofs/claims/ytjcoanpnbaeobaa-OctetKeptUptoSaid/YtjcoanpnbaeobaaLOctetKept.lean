/- Law OctetKept: what octet answers is new memory each time, its spare room too. Condition: the reading of the arguments is of bulk at most 1048576. -/
import Derived.Test.YtjcoanpnbaeobaaA9
import Derived.Test.YtjcoanpnbaeobaaK8u8
namespace Go.Proofs.Ytjcoanpnbaeobaa.octetKept
open Go.RowKit Go.Proofs.Ytjcoanpnbaeobaa.booku8
set_option linter.unusedVariables false

theorem own_le {W1 : World} {L : List UInt8} {A1 : Option Addr} {m c1 b : Nat} (h : W1.ownsRow b 5 1 (.slice A1 m c1) m (bs L)) (hL : L.length ≤ 140737488355328) : m * 1 ≤ 140737488355328 := by
  have := h.1
  rw [bs_length] at this
  omega
set_option maxHeartbeats 1000000 in
theorem walk (w : World) (A : Option Addr) (n c : Nat) (l : List UInt8) (hs : Sl w w.heap.size 1 A n (bs l)) (hc : n ≤ c) (hn : n ≤ 1048576) (x : Int) (b1 : 0 ≤ x ∧ x ≤ 4294967295) (s : ByteArray) (b3 : s.size ≤ 1048576) :
    Calls Try.prog 5 #[.slice A n c, .int .u32 x, .string s] w fun e w' => e = .returned (.bool true) ∧ Below w.heap.size w w' := by
  have hl := hs.blen
  have h0 : 0 ≤ x := b1.1
  have h1 : x < 4294967296 := by omega
  have hpt := putL_len_le l s.size 2
  have hp4 := putL_len_le l x 4
  have hsz : s.data.toList.length = s.size := by rw [Array.length_toList]; rfl
  obtain ⟨L1, hL1⟩ : ∃ L, L = l ++ le x 4 := ⟨_, rfl⟩
  obtain ⟨L2, hL2⟩ : ∃ L, L = putL l (s.size : Int) 2 ++ s.data.toList := ⟨_, rfl⟩
  have hn1 : L1.length ≤ 140737488355328 := by rw [hL1, List.length_append, le_length]; omega
  have hn2 : L2.length ≤ 140737488355328 := by rw [hL2, List.length_append, hsz]; omega
  have hput : ∀ W : World, Sl W W.heap.size 1 A n (bs l) → Calls Try.prog 15 #[.slice A n c, .int .u32 x, .int .i64 4] W (GivesOwn W L1) := by
    intro W h
    rw [hL1]
    exact put_yes A n c l x 4 W (by omega) rfl h (by omega) h0 h1
  have htext : ∀ W : World, Sl W W.heap.size 1 A n (bs l) → Calls Try.prog 16 #[.slice A n c, .string s] W (GivesOwn W L2) := by
    intro W h
    rw [hL2]
    exact putText_any A n c l s W h (by omega) (by omega)
  have Hput := Lib.hid hput
  have Htext := Lib.hid htext
  clear hput htext hL1 hL2 b1 hsz hpt hp4
  have hG1 : booku8.Good (bs L1) := ⟨L1, rfl⟩
  have hG2 : booku8.Good (bs L2) := ⟨L2, rfl⟩
  go_enter Try.func5, Try.ntmps5
  go_wp2_with fail
  go_loopw [8] (fun i wr => ∃ k : Nat, i = .int .i64 k ∧ k ≤ 2 ∧ At w w.heap.size wr) (fun i _ => 2 - (intOf i).toNat)
  case atStart => exact ⟨0, rfl, Nat.zero_le _, _, BookAt.new_ (heap_alloc_new w _), (Below.refl _ _).alloc (Nat.le_refl _) _⟩
  case round =>
    obtain ⟨k, rfl, hk, U, hB, hb⟩ := hrel
    have hz := hb.size
    by_cases hlt : k < 2
    · have hI : (k : Int) < 2 := by omega
      have s1 := (hs.below hb).more hz
      have HB := Lib.hid hB
      have Hs1 := Lib.hid s1
      clear s1 hB
      go_wp2_with (first
        | (go_at_call 15; refine (Hput.out wr Hs1.out).mono ?_; rintro e w1 ⟨A1, m1, c1, rfl, hc1, hown1, hb1⟩)
        | (go_at_call 21; (with_reducible refine Calls.mono (keep_new HB.out hb1 (Kept.of_own hown1) hG1 (own_le hown1 hn1)) ?_); rintro e w2 ⟨rfl, U2, hB2, hK2⟩; have hA2 := At.put hb hb1 hz (fun k hk => (HB.out.bound k hk).1) hB2 hK2; obtain ⟨U3, hB3, hb3⟩ := hA2; have hz3 := hb3.size; have HB3 := Lib.hid hB3; have Hs3 := Lib.hid ((hs.below hb3).more hz3); clear hB3 hB2)
        | (go_at_call 16; refine (Htext.out w2 Hs3.out).mono ?_; rintro e w4 ⟨A4, m4, c4, rfl, hc4, hown4, hb4⟩)
        | (go_at_call 21; (with_reducible refine Calls.mono (keep_new HB3.out hb4 (Kept.of_own hown4) hG2 (own_le hown4 hn2)) ?_); rintro e w5 ⟨rfl, U5, hB5, hK5⟩)
        | fail)
      go_roundw
      case rel => exact ⟨k + 1, by go_num, by omega, At.put hb3 hb4 hz3 (fun k hk => (HB3.out.bound k hk).1) hB5 hK5⟩
      case measure => simp [intOf]; omega
    · obtain rfl : k = 2 := by omega
      go_wp2_with (first
        | (go_at_call 22; refine (apart_any w.heap.size U wr hB).mono ?_; rintro e w6 ⟨rfl, hK6⟩)
        | (go_at_call 13; refine (known1_any _).mono ?_; rintro e w7 ⟨rfl, hb7⟩)
        | fail)
      go_ret
      have hb6 := hb.trans (hK6.below (fun k hk => (hB.bound k hk).1) hz)
      exact ⟨rfl, hb6.trans (hb7.mono hb6.size)⟩
end Go.Proofs.Ytjcoanpnbaeobaa.octetKept
