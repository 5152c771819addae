/- Law OctetPuts: octet's Put and PutText answer as the reference's, and what was handed in stays. Condition: the reading of the arguments is of bulk at most 1048576. -/
import Derived.Test.YtjcoanpnbaeobaaA9
namespace Go.Proofs.Ytjcoanpnbaeobaa.octetPuts
open Go.RowKit
set_option linter.unusedVariables false

set_option maxHeartbeats 1000000 in
theorem walk (w : World) (A : Option Addr) (n c : Nat) (l : List UInt8) (hs : Sl w w.heap.size 1 A n (bs l)) (hc : n ≤ c) (hn : n ≤ 1048576) (x : Int) (b1 : 0 ≤ x ∧ x ≤ 4294967295)
    (width : Int) (b2 : -9223372036854775808 ≤ width ∧ width ≤ 9223372036854775807) (s : ByteArray) (b3 : s.size ≤ 1048576) :
    Calls Try.prog 4 #[.slice A n c, .int .u32 x, .int .i64 width, .string s] w fun e w' => e = .returned (.bool true) ∧ Below w.heap.size w w' := by
  have hl := hs.blen
  have h0 : 0 ≤ x := b1.1
  have h1 : x < 4294967296 := by omega
  have hpl := putL_len_le l x width
  have hpt := putL_len_le l s.size 2
  have hsz : s.data.toList.length = s.size := by rw [Array.length_toList]; rfl
  obtain ⟨L1, hL1⟩ : ∃ L, L = putL l x width := ⟨_, rfl⟩
  obtain ⟨L2, hL2⟩ : ∃ L, L = putL l (s.size : Int) 2 ++ s.data.toList := ⟨_, rfl⟩
  have hn1 : L1.length ≤ 140737488355328 := by rw [hL1]; omega
  have hn2 : L2.length ≤ 140737488355328 := by rw [hL2, List.length_append, hsz]; omega
  have hput : ∀ (F : Option Addr) (C : Nat) (W : World), Sl W W.heap.size 1 F n (bs l) → Calls Try.prog 15 #[.slice F n C, .int .u32 x, .int .i64 width] W (GivesSl W L1) := by
    intro F C W h
    rw [hL1]
    exact put_any F n C l x width W h (by omega) h0 h1
  have hrput : ∀ (F : Option Addr) (C : Nat) (W : World), Sl W W.heap.size 1 F n (bs l) → Calls Try.prog 18 #[.slice F n C, .int .u32 x, .int .i64 width] W (GivesSl W L1) := by
    intro F C W h
    rw [hL1]
    exact (refPut_any F n C l x width W h (by omega) h0 h1).mono fun _ _ h => h.sl
  have htext : ∀ (F : Option Addr) (C : Nat) (W : World), Sl W W.heap.size 1 F n (bs l) → Calls Try.prog 16 #[.slice F n C, .string s] W (GivesSl W L2) := by
    intro F C W h
    rw [hL2]
    exact (putText_any F n C l s W h (by omega) (by omega)).mono fun _ _ h => h.sl
  have hrtext : ∀ (F : Option Addr) (C : Nat) (W : World), Sl W W.heap.size 1 F n (bs l) → Calls Try.prog 19 #[.slice F n C, .string s] W (GivesSl W L2) := by
    intro F C W h
    rw [hL2]
    exact (refPutText_any F n C l s W h (by omega) (by omega)).mono fun _ _ h => h.sl
  have Hput := Lib.hid hput
  have Hrput := Lib.hid hrput
  have Htext := Lib.hid htext
  have Hrtext := Lib.hid hrtext
  have HL := Lib.hid hl
  clear hput hrput htext hrtext hL1 hL2 b1 b2 hl hsz hpl hpt
  go_enter Try.func4, Try.ntmps4
  go_wp2_with (first
    | (go_at_call 14; refine (roomy_u8 A n c l 165 w hs (by omega)).mono ?_; rintro e w1 ⟨rfl, hblk, hb1⟩; have sf1 := room_all hblk HL.out; have sr1 := room_front sf1 HL.out; have sa1 := (hs.below hb1).more hb1.size)
    | (go_at_call 15; refine (Hput.out (some ⟨w.heap.size, 0, none⟩) (n + 80) w1 sr1).mono ?_; rintro e w2 ⟨Ax, nx, cx, rfl, hcx, sx2, hb2⟩; have sf2 := (sf1.below hb2).more hb2.size; have sr2 := (sr1.below hb2).more hb2.size; have sa2 := (sa1.below hb2).more hb2.size)
    | (go_at_call 16; refine (Htext.out (some ⟨w.heap.size, 0, none⟩) (n + 80) w2 sr2).mono ?_; rintro e w3 ⟨Ay, ny, cy, rfl, hcy, sy3, hb3⟩; have sf3 := (sf2.below hb3).more hb3.size; have sx3 := (sx2.below hb3).more hb3.size; have sa3 := (sa2.below hb3).more hb3.size)
    | (go_at_call 18; refine (Hrput.out A c w3 sa3).mono ?_; rintro e w4 ⟨Ar, nr, cr, rfl, hcr, sr4, hb4⟩; have sf4 := (sf3.below hb4).more hb4.size; have sx4 := (sx3.below hb4).more hb4.size; have sy4 := (sy3.below hb4).more hb4.size; have sa4 := (sa3.below hb4).more hb4.size)
    | (go_at_call 17; (with_reducible refine (same_yes Ax Ar nx nr cx cr L1 w4 sx4 sr4 hn1).mono ?_); rintro e w5 ⟨rfl, k5, rfl⟩)
    | (go_at_call 19; refine (Hrtext.out A c (w4.drewN k5) (sa4.drewN k5)).mono ?_; rintro e w6 ⟨Az, nz, cz, rfl, hcz, sz6, hb6⟩; have sf6 := ((sf4.drewN k5).below hb6).more hb6.size; have sy6 := ((sy4.drewN k5).below hb6).more hb6.size; have sa6 := ((sa4.drewN k5).below hb6).more hb6.size)
    | (go_at_call 17; (with_reducible refine (same_yes Ay Az ny nz cy cz L2 w6 sy6 sz6 hn2).mono ?_); rintro e w7 ⟨rfl, k7, rfl⟩)
    | (go_at_call 20; refine (intact_u8 (some ⟨w.heap.size, 0, none⟩) A n (n + 80) c l 165 (w6.drewN k7) (sf6.drewN k7) (sa6.drewN k7) (Nat.le_refl _) (by omega)).mono ?_; rintro e w' ⟨rfl, kk, rfl⟩)
    | (go_at_call 13; refine (known1_any _).mono ?_; rintro e w9 ⟨rfl, hb9⟩))
  go_ret
  have z1 := hb1.size
  have z2 := hb2.size
  have z3 := hb3.size
  have z4 := hb4.size
  have z6 : w4.heap.size ≤ w6.heap.size := hb6.size
  have e4 : Below w.heap.size w w4 := ((hb1.trans (hb2.mono (by omega))).trans (hb3.mono (by omega))).trans (hb4.mono (by omega))
  have e6 : Below w.heap.size w w6 := (below_drewN e4 k5).trans (hb6.mono (by show _ ≤ w4.heap.size; omega))
  exact ⟨rfl, (below_drewN e6 (k7 + kk)).trans (hb9.mono (by show _ ≤ w6.heap.size; omega))⟩
end Go.Proofs.Ytjcoanpnbaeobaa.octetPuts
