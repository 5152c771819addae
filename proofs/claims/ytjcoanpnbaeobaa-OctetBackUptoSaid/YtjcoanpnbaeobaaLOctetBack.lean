/- Law OctetBack: what was laid is read; with its sign it is the number, if it fits; what fits a width fits a greater one. Condition: the reading of the arguments is of bulk at most 1048576. -/
import Derived.Test.YtjcoanpnbaeobaaA9
import Derived.Test.YtjcoanpnbaeobaaP4
namespace Go.Proofs.Ytjcoanpnbaeobaa.octetBack
open Go.RowKit
set_option linter.unusedVariables false

theorem size_toList (s : ByteArray) : s.data.toList.length = s.size := by rw [Array.length_toList]; rfl

theorem r_get (F : Option Addr) (n N C : Nat) (l t : List UInt8) (x : Int) (W : Nat) (m : Int) (hm : m = x % 256 ^ W) (hl : l.length = n) (h : legalB (W : Int) = true) (w : World) (hs : Sl w w.heap.size 1 F N (bs (l ++ (le x W ++ t)))) (hN : N ≤ 140737488355328) :
    Calls Try.prog 24 #[.slice F N C, .int .i64 n, .int .i64 W] w fun e w' => e = .returned (.tuple #[.int .u32 m, .int .i64 0]) ∧ w = w' := by
  have := get_any F N C _ n W w hs (by unfold maxLen; omega)
  rw [← hl, getR_back l t x W h, hl, ← hm] at this
  exact this
theorem r_fits (x : Int) (W : Nat) (w : World) : Calls Try.prog 11 #[.int .i32 (wrap32 x), .int .i64 W] w fun e w' => e = .returned (.bool (fitsB (wrap32 x) W)) ∧ w = w' :=
  fits_any _ _ w (by unfold wrap32; omega) (by unfold wrap32; omega)
theorem r_fits4 (x : Int) (w : World) : Calls Try.prog 11 #[.int .i32 (wrap32 x), .int .i64 4] w fun e w' => e = .returned (.bool true) ∧ w = w' :=
  fits_any _ _ w (by unfold wrap32; omega) (by unfold wrap32; omega)

/-- what a round needs -/
structure Round (x : Int) (W : Int) (m S : Int) (FB : Bool) : Prop where
  fits : ∀ w, Calls Try.prog 11 #[.int .i32 (wrap32 x), .int .i64 W] w fun e w' => e = .returned (.bool FB) ∧ w = w'
  signed : ∀ w, Calls Try.prog 9 #[.int .u32 m, .int .i64 W] w fun e w' => e = .returned (.int .i32 S) ∧ w = w'
  same : (S == wrap32 x) = FB
  four : W = 4 → FB = true
theorem round_ (x : Int) (W : Nat) (V : Int) (hV : V = W) (hW : W = 1 ∨ W = 2 ∨ W = 4) (m : Int) (hm : m = x % 256 ^ W) : ∃ S FB, Round x V m S FB := by
  subst hV
  refine ⟨sgn m W, fitsB (wrap32 x) W, r_fits x W, fun w => ?_, ?_, fun h => by rw [h]; rfl⟩
  · have h0 : 0 ≤ m := by rw [hm]; exact Int.emod_nonneg _ (by rcases hW with rfl | rfl | rfl <;> decide)
    have h1 : m < 4294967296 := by
      rw [hm]
      rcases hW with rfl | rfl | rfl
      · have := Int.emod_lt_of_pos x (show (0 : Int) < 256 ^ 1 by decide); omega
      · have := Int.emod_lt_of_pos x (show (0 : Int) < 256 ^ 2 by decide); omega
      · have := Int.emod_lt_of_pos x (show (0 : Int) < 256 ^ 4 by decide); omega
    exact signed_any m W w h0 h1
  · rw [hm]; exact fits_back x W hW

set_option maxRecDepth 100000 in
set_option maxHeartbeats 4000000 in
theorem walk (w : World) (A : Option Addr) (n c : Nat) (l : List UInt8) (hs : Sl w w.heap.size 1 A n (bs l)) (hc : n ≤ c) (hn : n ≤ 1048576) (x : Int) (b1 : 0 ≤ x ∧ x ≤ 4294967295)
    (s : ByteArray) (b2 : s.size ≤ 1048576) (At : Option Addr) (nt ct : Nat) (t : List UInt8) (ht : Sl w w.heap.size 1 At nt (bs t)) (hct : nt ≤ ct) (hnt : nt ≤ 1048576) :
    Calls Try.prog 8 #[.slice A n c, .int .u32 x, .string s, .slice At nt ct] w fun e w' => e = .returned (.bool true) ∧ Below w.heap.size w w' := by
  obtain ⟨i0, hi0, hz0, hz1, hz2⟩ := info_parts u8_info
  have HL := Lib.hid hs.blen
  have HT := Lib.hid ht.blen
  have h0 : 0 ≤ x := b1.1
  have h1 : x < 4294967296 := by omega
  clear b1
  obtain ⟨w0, hw0⟩ : ∃ w0, w0 = w.alloc (.cells #[.int .i64 1, .int .i64 2, .int .i64 4] 3) := ⟨_, rfl⟩
  have hz : w0.heap.size = w.heap.size + 1 := by rw [hw0]; simp
  have hb0 : Below w.heap.size w w0 := by rw [hw0]; exact (Below.refl _ _).alloc (Nat.le_refl _) _
  have hcell : w0.cell? ⟨w.heap.size, 0, none⟩ = some (.int .i64 1) ∧ w0.cell? ⟨w.heap.size, 1, none⟩ = some (.int .i64 2) ∧ w0.cell? ⟨w.heap.size, 2, none⟩ = some (.int .i64 4) := by rw [hw0]; simp
  have hsa : Sl w0 (w.heap.size + 1) 1 A n (bs l) := (hs.below hb0).more (by omega)
  have hst : Sl w0 (w.heap.size + 1) 1 At nt (bs t) := (ht.below hb0).more (by omega)
  have Hw0 := Lib.hid hw0
  have Hz := Lib.hid hz
  have Hcell := Lib.hid hcell
  clear hz hcell hs ht hw0
  by_cases hlong : 60000 < s.size
  · have hl2 : (60000 : Int) < (s.size : Int) := by omega
    go_enter Try.func8, Try.ntmps8
    go_wp2_with fail
    obtain ⟨S, hS⟩ : ∃ S, S = s.extract 0 60000 := ⟨_, rfl⟩
    have hSz : S.size ≤ 60000 := by rw [hS, ByteArray.size_extract]; omega
    rw [← hS, ← Hw0.out]
    clear hS hlong hl2
    go_loopw [25] (fun i wr => ∃ k : Nat, i = .int .i64 k ∧ k ≤ 3 ∧ Below (w.heap.size + 1) w0 wr) (fun i _ => 3 - (intOf i).toNat)
    case atStart => exact ⟨0, rfl, by omega, Below.refl _ _⟩
    case round =>
      obtain ⟨k, rfl, hk, hbr⟩ := hrel
      have hzr := hbr.size
      have sar : Sl wr wr.heap.size 1 A n (bs l) := (hsa.below hbr).more (by have := Hz.out; omega)
      have str : Sl wr wr.heap.size 1 At nt (bs t) := (hst.below hbr).more (by have := Hz.out; omega)
      rcases (show k = 0 ∨ k = 1 ∨ k = 2 ∨ k = 3 by omega) with rfl | rfl | rfl | rfl
      · obtain ⟨S1, FB, hround⟩ := round_ x 1 1 rfl (by omega) (x % 256) (by omega)
        have hfb := hround.same
        have Hfit := Lib.hid hround.fits
        have Hsig := Lib.hid hround.signed
        clear hround
        have hcl : wr.cell? ⟨w.heap.size, 0, none⟩ = some (.int .i64 1) := by rw [hbr.cell (by simp)]; exact Hcell.out.1
        go_wp2_with (first
          | (go_at_call 15; refine (put_yes A n c l x 1 wr (by omega) rfl sar (by omega) h0 h1).mono ?_; rintro e w1 ⟨A1, n1, c1, rfl, hc1, hown1, hb1⟩; obtain rfl : n + 1 = n1 := by (have e1 := hown1.1; have e2 := HL.out; simp only [bs_length, List.length_append, le_length] at e1; omega))
          | (at_builtin
             refine wpList_app _ rfl (.tmp 32) (.tmp 33) _ rfl wr.heap.size 5 i0 _ 1 1 Try.underlying27 hi0 hz0 hz1 hz2 rfl (by omega) (.slice A1 (n + 1) c1) (n + 1) (bs (l ++ le x 1)) rfl hown1 wr.heap.size At nt ct (bs t) rfl (str.below hb1) (bs_one t) (by unfold maxLen; omega) (by omega) hb1.size (n + 1 + nt) rfl (bs (l ++ (le x 1 ++ t))) (by rw [← List.append_assoc, bs_append _ t]) ?_
             intro A2 c2 w2 hc2 hown2 hg2 _
             have hb2 : Below wr.heap.size wr w2 := below_app hb1 hown1 hg2 hb1.size
             have hg3 := Lib.hid (r_get A2 n (n + 1 + nt) c2 l t x 1 (x % 256) (by omega) HL.out rfl w2 (Sl.of_own hown2) (by omega)))
          | (go_at_call 24; refine hg3.out.mono ?_; rintro e w' ⟨rfl, rfl⟩)
          | (go_at_call 11; (with_reducible refine (r_fits4 x _).mono ?_); rintro e w' ⟨rfl, rfl⟩)
          | (go_at_call 11; (with_reducible refine (Hfit.out _).mono ?_); rintro e w' ⟨rfl, rfl⟩)
          | (go_at_call 9; refine (Hsig.out _).mono ?_; rintro e w' ⟨rfl, rfl⟩))
        all_goals
          go_roundw
          case rel => exact ⟨1, rfl, by omega, hbr.trans (hb2.mono (by have := Hz.out; omega))⟩
          case measure => simp [intOf]
      · obtain ⟨S2, FB, hround⟩ := round_ x 2 2 rfl (by omega) (x % 65536) (by omega)
        have hfb := hround.same
        have Hfit := Lib.hid hround.fits
        have Hsig := Lib.hid hround.signed
        clear hround
        have hcl : wr.cell? ⟨w.heap.size, 1, none⟩ = some (.int .i64 2) := by rw [hbr.cell (by simp)]; exact Hcell.out.2.1
        go_wp2_with (first
          | (go_at_call 15; refine (put_yes A n c l x 2 wr (by omega) rfl sar (by omega) h0 h1).mono ?_; rintro e w1 ⟨A1, n1, c1, rfl, hc1, hown1, hb1⟩; obtain rfl : n + 2 = n1 := by (have e1 := hown1.1; have e2 := HL.out; simp only [bs_length, List.length_append, le_length] at e1; omega))
          | (at_builtin
             refine wpList_app _ rfl (.tmp 32) (.tmp 33) _ rfl wr.heap.size 5 i0 _ 1 1 Try.underlying27 hi0 hz0 hz1 hz2 rfl (by omega) (.slice A1 (n + 2) c1) (n + 2) (bs (l ++ le x 2)) rfl hown1 wr.heap.size At nt ct (bs t) rfl (str.below hb1) (bs_one t) (by unfold maxLen; omega) (by omega) hb1.size (n + 2 + nt) rfl (bs (l ++ (le x 2 ++ t))) (by rw [← List.append_assoc, bs_append _ t]) ?_
             intro A2 c2 w2 hc2 hown2 hg2 _
             have hb2 : Below wr.heap.size wr w2 := below_app hb1 hown1 hg2 hb1.size
             have hg3 := Lib.hid (r_get A2 n (n + 2 + nt) c2 l t x 2 (x % 65536) (by omega) HL.out rfl w2 (Sl.of_own hown2) (by omega)))
          | (go_at_call 24; refine hg3.out.mono ?_; rintro e w' ⟨rfl, rfl⟩)
          | (go_at_call 11; (with_reducible refine (r_fits4 x _).mono ?_); rintro e w' ⟨rfl, rfl⟩)
          | (go_at_call 11; (with_reducible refine (Hfit.out _).mono ?_); rintro e w' ⟨rfl, rfl⟩)
          | (go_at_call 9; refine (Hsig.out _).mono ?_; rintro e w' ⟨rfl, rfl⟩))
        all_goals
          go_roundw
          case rel => exact ⟨2, rfl, by omega, hbr.trans (hb2.mono (by have := Hz.out; omega))⟩
          case measure => simp [intOf]
      · obtain ⟨S4, FB, hround⟩ := round_ x 4 4 rfl (by omega) (x) (by omega)
        obtain rfl : FB = true := hround.four rfl
        have hfb := hround.same
        have Hfit := Lib.hid hround.fits
        have Hsig := Lib.hid hround.signed
        clear hround
        have hcl : wr.cell? ⟨w.heap.size, 2, none⟩ = some (.int .i64 4) := by rw [hbr.cell (by simp)]; exact Hcell.out.2.2
        go_wp2_with (first
          | (go_at_call 15; refine (put_yes A n c l x 4 wr (by omega) rfl sar (by omega) h0 h1).mono ?_; rintro e w1 ⟨A1, n1, c1, rfl, hc1, hown1, hb1⟩; obtain rfl : n + 4 = n1 := by (have e1 := hown1.1; have e2 := HL.out; simp only [bs_length, List.length_append, le_length] at e1; omega))
          | (at_builtin
             refine wpList_app _ rfl (.tmp 32) (.tmp 33) _ rfl wr.heap.size 5 i0 _ 1 1 Try.underlying27 hi0 hz0 hz1 hz2 rfl (by omega) (.slice A1 (n + 4) c1) (n + 4) (bs (l ++ le x 4)) rfl hown1 wr.heap.size At nt ct (bs t) rfl (str.below hb1) (bs_one t) (by unfold maxLen; omega) (by omega) hb1.size (n + 4 + nt) rfl (bs (l ++ (le x 4 ++ t))) (by rw [← List.append_assoc, bs_append _ t]) ?_
             intro A2 c2 w2 hc2 hown2 hg2 _
             have hb2 : Below wr.heap.size wr w2 := below_app hb1 hown1 hg2 hb1.size
             have hg3 := Lib.hid (r_get A2 n (n + 4 + nt) c2 l t x 4 (x) (by omega) HL.out rfl w2 (Sl.of_own hown2) (by omega)))
          | (go_at_call 24; refine hg3.out.mono ?_; rintro e w' ⟨rfl, rfl⟩)
          | (go_at_call 11; (with_reducible refine (r_fits4 x _).mono ?_); rintro e w' ⟨rfl, rfl⟩)
          | (go_at_call 11; (with_reducible refine (Hfit.out _).mono ?_); rintro e w' ⟨rfl, rfl⟩)
          | (go_at_call 9; refine (Hsig.out _).mono ?_; rintro e w' ⟨rfl, rfl⟩))
        all_goals
          go_roundw
          case rel => exact ⟨3, rfl, by omega, hbr.trans (hb2.mono (by have := Hz.out; omega))⟩
          case measure => simp [intOf]
      · have hSl := size_toList S
        have htr := getTextR_back l S.data.toList t (by rw [hSl]; exact hSz)
        rw [hSl, HL.out] at htr
        have Htr := Lib.hid htr
        have HSl := Lib.hid hSl
        clear htr hSl
        go_wp2_with (first
          | (go_at_call 16; refine (putText_any A n c l S wr sar (by omega) (by omega)).mono ?_; rintro e w1 ⟨A1, n1, c1, rfl, hc1, hown1, hb1⟩; rw [putL_yes (show legalB 2 = true from rfl)] at hown1; obtain rfl : n + 2 + S.size = n1 := by (have e1 := hown1.1; have e2 := HL.out; have e3 := HSl.out; simp only [bs_length, List.length_append, le_length] at e1; omega))
          | (at_builtin
             refine wpList_app _ rfl (.tmp 94) (.tmp 95) _ rfl wr.heap.size 5 i0 _ 1 1 Try.underlying27 hi0 hz0 hz1 hz2 rfl (by omega) (.slice A1 (n + 2 + S.size) c1) (n + 2 + S.size) _ rfl hown1 wr.heap.size At nt ct (bs t) rfl (str.below hb1) (bs_one t) (by unfold maxLen; omega) (by omega) hb1.size (n + 2 + S.size + nt) rfl (bs (l ++ (le S.size 2 ++ (S.data.toList ++ t)))) (by rw [← bs_append]; simp [List.append_assoc]) ?_
             intro A2 c2 w2 hc2 hown2 hg2 _
             have hb2 : Below wr.heap.size wr w2 := below_app hb1 hown1 hg2 hb1.size
             have hg3 := Lib.hid (getText_any A2 (n + 2 + S.size + nt) c2 _ n S.size w2 (Sl.of_own hown2) hc2 (by omega) (by omega))
             rw [Htr.out] at hg3)
          | (go_at_call 26; refine hg3.out.mono ?_; rintro e w' ⟨rfl, rfl⟩)
          | (go_at_call 13; refine (known1_any _).mono ?_; rintro e w9 ⟨rfl, hb9⟩))
        go_ret
        exact ⟨rfl, ((hb0.trans (hbr.mono (by omega))).trans (hb2.mono (by have := Hz.out; omega))).trans (hb9.mono (by have := hb2.size; have := Hz.out; omega))⟩
  · have hSz : s.size ≤ 60000 := by omega
    have hl2 : ¬ (60000 : Int) < (s.size : Int) := by omega
    obtain ⟨S, rfl⟩ : ∃ S, S = s := ⟨_, rfl⟩
    clear hlong
    go_enter Try.func8, Try.ntmps8
    go_wp2_with fail
    rw [← Hw0.out]
    clear hl2
    go_loopw [25] (fun i wr => ∃ k : Nat, i = .int .i64 k ∧ k ≤ 3 ∧ Below (w.heap.size + 1) w0 wr) (fun i _ => 3 - (intOf i).toNat)
    case atStart => exact ⟨0, rfl, by omega, Below.refl _ _⟩
    case round =>
      obtain ⟨k, rfl, hk, hbr⟩ := hrel
      have hzr := hbr.size
      have sar : Sl wr wr.heap.size 1 A n (bs l) := (hsa.below hbr).more (by have := Hz.out; omega)
      have str : Sl wr wr.heap.size 1 At nt (bs t) := (hst.below hbr).more (by have := Hz.out; omega)
      rcases (show k = 0 ∨ k = 1 ∨ k = 2 ∨ k = 3 by omega) with rfl | rfl | rfl | rfl
      · obtain ⟨S1, FB, hround⟩ := round_ x 1 1 rfl (by omega) (x % 256) (by omega)
        have hfb := hround.same
        have Hfit := Lib.hid hround.fits
        have Hsig := Lib.hid hround.signed
        clear hround
        have hcl : wr.cell? ⟨w.heap.size, 0, none⟩ = some (.int .i64 1) := by rw [hbr.cell (by simp)]; exact Hcell.out.1
        go_wp2_with (first
          | (go_at_call 15; refine (put_yes A n c l x 1 wr (by omega) rfl sar (by omega) h0 h1).mono ?_; rintro e w1 ⟨A1, n1, c1, rfl, hc1, hown1, hb1⟩; obtain rfl : n + 1 = n1 := by (have e1 := hown1.1; have e2 := HL.out; simp only [bs_length, List.length_append, le_length] at e1; omega))
          | (at_builtin
             refine wpList_app _ rfl (.tmp 32) (.tmp 33) _ rfl wr.heap.size 5 i0 _ 1 1 Try.underlying27 hi0 hz0 hz1 hz2 rfl (by omega) (.slice A1 (n + 1) c1) (n + 1) (bs (l ++ le x 1)) rfl hown1 wr.heap.size At nt ct (bs t) rfl (str.below hb1) (bs_one t) (by unfold maxLen; omega) (by omega) hb1.size (n + 1 + nt) rfl (bs (l ++ (le x 1 ++ t))) (by rw [← List.append_assoc, bs_append _ t]) ?_
             intro A2 c2 w2 hc2 hown2 hg2 _
             have hb2 : Below wr.heap.size wr w2 := below_app hb1 hown1 hg2 hb1.size
             have hg3 := Lib.hid (r_get A2 n (n + 1 + nt) c2 l t x 1 (x % 256) (by omega) HL.out rfl w2 (Sl.of_own hown2) (by omega)))
          | (go_at_call 24; refine hg3.out.mono ?_; rintro e w' ⟨rfl, rfl⟩)
          | (go_at_call 11; (with_reducible refine (r_fits4 x _).mono ?_); rintro e w' ⟨rfl, rfl⟩)
          | (go_at_call 11; (with_reducible refine (Hfit.out _).mono ?_); rintro e w' ⟨rfl, rfl⟩)
          | (go_at_call 9; refine (Hsig.out _).mono ?_; rintro e w' ⟨rfl, rfl⟩))
        all_goals
          go_roundw
          case rel => exact ⟨1, rfl, by omega, hbr.trans (hb2.mono (by have := Hz.out; omega))⟩
          case measure => simp [intOf]
      · obtain ⟨S2, FB, hround⟩ := round_ x 2 2 rfl (by omega) (x % 65536) (by omega)
        have hfb := hround.same
        have Hfit := Lib.hid hround.fits
        have Hsig := Lib.hid hround.signed
        clear hround
        have hcl : wr.cell? ⟨w.heap.size, 1, none⟩ = some (.int .i64 2) := by rw [hbr.cell (by simp)]; exact Hcell.out.2.1
        go_wp2_with (first
          | (go_at_call 15; refine (put_yes A n c l x 2 wr (by omega) rfl sar (by omega) h0 h1).mono ?_; rintro e w1 ⟨A1, n1, c1, rfl, hc1, hown1, hb1⟩; obtain rfl : n + 2 = n1 := by (have e1 := hown1.1; have e2 := HL.out; simp only [bs_length, List.length_append, le_length] at e1; omega))
          | (at_builtin
             refine wpList_app _ rfl (.tmp 32) (.tmp 33) _ rfl wr.heap.size 5 i0 _ 1 1 Try.underlying27 hi0 hz0 hz1 hz2 rfl (by omega) (.slice A1 (n + 2) c1) (n + 2) (bs (l ++ le x 2)) rfl hown1 wr.heap.size At nt ct (bs t) rfl (str.below hb1) (bs_one t) (by unfold maxLen; omega) (by omega) hb1.size (n + 2 + nt) rfl (bs (l ++ (le x 2 ++ t))) (by rw [← List.append_assoc, bs_append _ t]) ?_
             intro A2 c2 w2 hc2 hown2 hg2 _
             have hb2 : Below wr.heap.size wr w2 := below_app hb1 hown1 hg2 hb1.size
             have hg3 := Lib.hid (r_get A2 n (n + 2 + nt) c2 l t x 2 (x % 65536) (by omega) HL.out rfl w2 (Sl.of_own hown2) (by omega)))
          | (go_at_call 24; refine hg3.out.mono ?_; rintro e w' ⟨rfl, rfl⟩)
          | (go_at_call 11; (with_reducible refine (r_fits4 x _).mono ?_); rintro e w' ⟨rfl, rfl⟩)
          | (go_at_call 11; (with_reducible refine (Hfit.out _).mono ?_); rintro e w' ⟨rfl, rfl⟩)
          | (go_at_call 9; refine (Hsig.out _).mono ?_; rintro e w' ⟨rfl, rfl⟩))
        all_goals
          go_roundw
          case rel => exact ⟨2, rfl, by omega, hbr.trans (hb2.mono (by have := Hz.out; omega))⟩
          case measure => simp [intOf]
      · obtain ⟨S4, FB, hround⟩ := round_ x 4 4 rfl (by omega) (x) (by omega)
        obtain rfl : FB = true := hround.four rfl
        have hfb := hround.same
        have Hfit := Lib.hid hround.fits
        have Hsig := Lib.hid hround.signed
        clear hround
        have hcl : wr.cell? ⟨w.heap.size, 2, none⟩ = some (.int .i64 4) := by rw [hbr.cell (by simp)]; exact Hcell.out.2.2
        go_wp2_with (first
          | (go_at_call 15; refine (put_yes A n c l x 4 wr (by omega) rfl sar (by omega) h0 h1).mono ?_; rintro e w1 ⟨A1, n1, c1, rfl, hc1, hown1, hb1⟩; obtain rfl : n + 4 = n1 := by (have e1 := hown1.1; have e2 := HL.out; simp only [bs_length, List.length_append, le_length] at e1; omega))
          | (at_builtin
             refine wpList_app _ rfl (.tmp 32) (.tmp 33) _ rfl wr.heap.size 5 i0 _ 1 1 Try.underlying27 hi0 hz0 hz1 hz2 rfl (by omega) (.slice A1 (n + 4) c1) (n + 4) (bs (l ++ le x 4)) rfl hown1 wr.heap.size At nt ct (bs t) rfl (str.below hb1) (bs_one t) (by unfold maxLen; omega) (by omega) hb1.size (n + 4 + nt) rfl (bs (l ++ (le x 4 ++ t))) (by rw [← List.append_assoc, bs_append _ t]) ?_
             intro A2 c2 w2 hc2 hown2 hg2 _
             have hb2 : Below wr.heap.size wr w2 := below_app hb1 hown1 hg2 hb1.size
             have hg3 := Lib.hid (r_get A2 n (n + 4 + nt) c2 l t x 4 (x) (by omega) HL.out rfl w2 (Sl.of_own hown2) (by omega)))
          | (go_at_call 24; refine hg3.out.mono ?_; rintro e w' ⟨rfl, rfl⟩)
          | (go_at_call 11; (with_reducible refine (r_fits4 x _).mono ?_); rintro e w' ⟨rfl, rfl⟩)
          | (go_at_call 11; (with_reducible refine (Hfit.out _).mono ?_); rintro e w' ⟨rfl, rfl⟩)
          | (go_at_call 9; refine (Hsig.out _).mono ?_; rintro e w' ⟨rfl, rfl⟩))
        all_goals
          go_roundw
          case rel => exact ⟨3, rfl, by omega, hbr.trans (hb2.mono (by have := Hz.out; omega))⟩
          case measure => simp [intOf]
      · have hSl := size_toList S
        have htr := getTextR_back l S.data.toList t (by rw [hSl]; exact hSz)
        rw [hSl, HL.out] at htr
        have Htr := Lib.hid htr
        have HSl := Lib.hid hSl
        clear htr hSl
        go_wp2_with (first
          | (go_at_call 16; refine (putText_any A n c l S wr sar (by omega) (by omega)).mono ?_; rintro e w1 ⟨A1, n1, c1, rfl, hc1, hown1, hb1⟩; rw [putL_yes (show legalB 2 = true from rfl)] at hown1; obtain rfl : n + 2 + S.size = n1 := by (have e1 := hown1.1; have e2 := HL.out; have e3 := HSl.out; simp only [bs_length, List.length_append, le_length] at e1; omega))
          | (at_builtin
             refine wpList_app _ rfl (.tmp 94) (.tmp 95) _ rfl wr.heap.size 5 i0 _ 1 1 Try.underlying27 hi0 hz0 hz1 hz2 rfl (by omega) (.slice A1 (n + 2 + S.size) c1) (n + 2 + S.size) _ rfl hown1 wr.heap.size At nt ct (bs t) rfl (str.below hb1) (bs_one t) (by unfold maxLen; omega) (by omega) hb1.size (n + 2 + S.size + nt) rfl (bs (l ++ (le S.size 2 ++ (S.data.toList ++ t)))) (by rw [← bs_append]; simp [List.append_assoc]) ?_
             intro A2 c2 w2 hc2 hown2 hg2 _
             have hb2 : Below wr.heap.size wr w2 := below_app hb1 hown1 hg2 hb1.size
             have hg3 := Lib.hid (getText_any A2 (n + 2 + S.size + nt) c2 _ n S.size w2 (Sl.of_own hown2) hc2 (by omega) (by omega))
             rw [Htr.out] at hg3)
          | (go_at_call 26; refine hg3.out.mono ?_; rintro e w' ⟨rfl, rfl⟩)
          | (go_at_call 13; refine (known1_any _).mono ?_; rintro e w9 ⟨rfl, hb9⟩))
        go_ret
        exact ⟨rfl, ((hb0.trans (hbr.mono (by omega))).trans (hb2.mono (by have := Hz.out; omega))).trans (hb9.mono (by have := hb2.size; have := Hz.out; omega))⟩
end Go.Proofs.Ytjcoanpnbaeobaa.octetBack
