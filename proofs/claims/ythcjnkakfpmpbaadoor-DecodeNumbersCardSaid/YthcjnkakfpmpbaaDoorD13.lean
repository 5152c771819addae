/- The walks of the reference's find and number, of chapter 7. Conditions: none. -/
import Derived.Test.YthcjnkakfpmpbaaDoorD11
import Derived.Test.YthcjnkakfpmpbaaDoorB10d
namespace Go.Proofs.YthcjnkakfpmpbaaDoor
open Go.RowKit
set_option linter.unusedVariables false
set_option linter.unusedSimpArgs false

theorem ref7number (A : Option Addr) (n c : Nat) (l : List UInt8) (at_ width : Int) (w : World) (hs : Sl w w.heap.size 1 A n (bs l)) (hn : n ≤ maxLen) :
    Calls Tryd.prog 50 #[.slice A n c, .int .i64 at_, .int .i64 width] w fun e w' => e = .returned (.int .i32 (sgn (getR l at_ width).1 width)) ∧ w = w' := by
  have hg := refGet_any A n c l at_ width w hs hn
  have hb := getR_bounds l at_ width
  have hsg := fun w => refSigned_any (getR l at_ width).1 width w hb.1 hb.2
  generalize (getR l at_ width).1 = v at *
  generalize (getR l at_ width).2 = y at *
  have Hg := Lib.hid hg
  have Hsg := Lib.hid hsg
  clear hg hsg
  go_enter Tryd.func50, Tryd.ntmps50
  go_wp2_with (first
    | (go_at_call 77; refine (Hg.out).mono ?_; rintro e w' ⟨rfl, rfl⟩)
    | (go_at_call 78; refine (Hsg.out _).mono ?_; rintro e w' ⟨rfl, rfl⟩))
  go_ret
  exact ⟨rfl, rfl⟩

theorem no_step {c B : Int} {p : Nat} (h : ∀ t : Nat, t < p → c ≠ B + t) (hp : c ≠ B + p) : ∀ t : Nat, t < p + 1 → c ≠ B + t := by
  intro t ht
  rcases Nat.lt_succ_iff_lt_or_eq.1 ht with h1 | rfl
  · exact h t h1
  · exact hp
set_option maxHeartbeats 2000000 in
theorem ref7find (c : Int) (w : World) (h0 : 0 ≤ c) (h1 : c < 256) :
    Calls Tryd.prog 47 #[.int .u8 c] w fun e w' => e = .returned (.tuple #[.int .i64 (byteD c).1, .int .i64 (byteD c).2]) ∧ Below w.heap.size w w' := by
  obtain ⟨r, hr⟩ : ∃ r, r = byteD c := ⟨_, rfl⟩
  rw [← hr]
  have HR := Lib.hid hr
  have hw1 : IntKind.i64.wrap 1 = 1 := by decide
  have hw2 : IntKind.i64.wrap 2 = 2 := by decide
  have hw4 : IntKind.i64.wrap 4 = 4 := by decide
  clear hr
  go_enter Tryd.func47, Tryd.ntmps47
  go_wp2_with (go_at_call 67; refine (refOps_gives _).mono ?_; rintro e w1 ⟨rfl, hT, hb⟩)
  go_loopw [5] (fun i wr => ∃ k : Nat, i = .int .i64 (k : Int) ∧ k ≤ 43 ∧ Hid (r = findD (43 - k) k c) ∧ Below w1.heap.size w1 wr) (fun i _ => 43 - (intOf i).toNat)
  case atStart => exact ⟨0, rfl, Nat.zero_le _, Lib.hid (by rw [HR.out]; rfl), Below.refl _ _⟩
  case round =>
    obtain ⟨k, rfl, hk, hf, hbr⟩ := hrel
    have hzr := hbr.size
    by_cases hlt : k < 43
    · have hI : (k : Int) < 43 := by omega
      have hsp := fun w => refSpans_any ((k : Int) + 1) w
      have hTr := hT.below hbr hT.lt
      have hB := byte_small k hlt
      have hfm := fun h => findD_miss (c := c) hlt h
      have hfh := fun h => findD_hit (c := c) hlt h
      unfold hitB at hfm hfh
      unfold formD at hfh
      have Hsp := Lib.hid hsp
      have hcB := (hT.cells k hlt).2.1
      clear hsp
      generalize opByte ((k : Int) + 1) = B at *
      generalize spansB ((k : Int) + 1) = SB at *
      obtain ⟨hB0, hB1⟩ := hB
      cases SB
      · simp only [Bool.false_eq_true, if_false] at hfm hfh
        by_cases hc : c = B
        · have HH := Lib.hid (hfh (by simpa using hc))
          clear hfm hfh
          have hc1 : (B == c) = true := by simp [hc]
          clear hc
          go_wp2_with (go_at_call 76; refine (Hsp.out _).mono ?_; rintro e w2 ⟨rfl, hb2⟩; have hc2 := (((bcell hb2).1 _ _ (by have := hT.lt; omega)).trans ((bcell hbr).1 _ _ hT.lt)).trans hcB)
          refine bodyPost_ret (v := .tuple #[.int .i64 ((k : Int) + 1), .int .i64 0]) (by simp [results, Tryd.results47, go_sem]) rfl ⟨?_, (hb.trans (hbr.mono hb.size)).trans (hb2.mono (by have := hb.size; omega))⟩
          rw [hf.out, HH.out]
        · have HM := Lib.hid (hfm (by simpa using hc))
          clear hfm hfh
          have hc1 : (B == c) = false := by simp; omega
          go_wp2_with (go_at_call 76; refine (Hsp.out _).mono ?_; rintro e w2 ⟨rfl, hb2⟩; have hc2 := (((bcell hb2).1 _ _ (by have := hT.lt; omega)).trans ((bcell hbr).1 _ _ hT.lt)).trans hcB)
          go_roundw
          case rel => exact ⟨k + 1, by go_num, by omega, Lib.hid (by rw [hf.out, HM.out]), hbr.trans (hb2.mono hzr)⟩
          case measure => simp [intOf]; omega
      · simp only [if_true] at hfm hfh
        have Hfm := Lib.hid hfm
        have Hfh := Lib.hid hfh
        clear hfm hfh
        go_wp2_with (go_at_call 76; refine (Hsp.out _).mono ?_; rintro e w2 ⟨rfl, hb2⟩; have hc2 := (((bcell hb2).1 _ _ (by have := hT.lt; omega)).trans ((bcell hbr).1 _ _ hT.lt)).trans hcB)
        go_loopw [6] (fun q wq => ∃ p : Nat, q = .int .i64 (p : Int) ∧ p ≤ 3 ∧ wq = w2 ∧ Hid (∀ t : Nat, t < p → c ≠ B + t)) (fun q _ => 3 - (intOf q).toNat)
        case atStart => exact ⟨0, rfl, Nat.zero_le _, rfl, Lib.hid (fun t h => absurd h (by omega))⟩
        case round =>
          obtain ⟨p, rfl, hp, rfl, hno⟩ := hrel
          rcases (show p = 0 ∨ p = 1 ∨ p = 2 ∨ p = 3 by omega) with rfl | rfl | rfl | rfl
          · by_cases hc : c = B
            · have hc1 : (B == c) = true := by simp [hc]
              have HH := Lib.hid (Hfh.out (by simp; omega))
              go_wp2
              refine bodyPost_ret (v := .tuple #[.int .i64 ((k : Int) + 1), .int .i64 1]) (by simp [results, Tryd.results47, go_sem]) rfl ⟨?_, (hb.trans (hbr.mono hb.size)).trans (hb2.mono (by have := hb.size; omega))⟩
              rw [hf.out, HH.out, hc, Int.sub_self]
              rfl
            · have hc1 : (B == c) = false := by simp; omega
              go_wp2
              go_roundw
              case rel => exact ⟨1, by go_num, by omega, (by first | rfl | trivial), Lib.hid (no_step (p := 0) (fun t h => absurd h (by omega)) (by simpa using hc))⟩
              case measure => simp [intOf]
          · by_cases hc : c = B + 1
            · have hc1 : (B + 1 == c) = true := by simp [hc]
              have HH := Lib.hid (Hfh.out (by simp; omega))
              go_wp2
              refine bodyPost_ret (v := .tuple #[.int .i64 ((k : Int) + 1), .int .i64 2]) (by simp [results, Tryd.results47, go_sem, hw1, hw2, hw4]) rfl ⟨?_, (hb.trans (hbr.mono hb.size)).trans (hb2.mono (by have := hb.size; omega))⟩
              rw [hf.out, HH.out, hc, show B + 1 - B = 1 by omega]
              rfl
            · have hc1 : (B + 1 == c) = false := by simp; omega
              go_wp2
              go_roundw
              case rel => exact ⟨2, by go_num, by omega, (by first | rfl | trivial), Lib.hid (no_step (p := 1) hno.out (by simpa using hc))⟩
              case measure => simp [intOf]
          · by_cases hc : c = B + 2
            · have hc1 : (B + 2 == c) = true := by simp [hc]
              have HH := Lib.hid (Hfh.out (by simp; omega))
              go_wp2
              refine bodyPost_ret (v := .tuple #[.int .i64 ((k : Int) + 1), .int .i64 4]) (by simp [results, Tryd.results47, go_sem, hw1, hw2, hw4]) rfl ⟨?_, (hb.trans (hbr.mono hb.size)).trans (hb2.mono (by have := hb.size; omega))⟩
              rw [hf.out, HH.out, hc, show B + 2 - B = 2 by omega]
              rfl
            · have hc1 : (B + 2 == c) = false := by simp; omega
              go_wp2
              go_roundw
              case rel => exact ⟨3, by go_num, by omega, (by first | rfl | trivial), Lib.hid (no_step (p := 2) hno.out (by simpa using hc))⟩
              case measure => simp [intOf]
          · have n0 := hno.out 0 (by omega)
            have n1 := hno.out 1 (by omega)
            have n2 := hno.out 2 (by omega)
            have HM := Lib.hid (Hfm.out (by simp at n0 n1 n2 ⊢; omega))
            go_wp2
            go_roundw
            case rel => exact ⟨k + 1, by go_num, by omega, Lib.hid (by rw [hf.out, HM.out]), hbr.trans (hb2.mono hzr)⟩
            case measure => simp [intOf]; omega
    · obtain rfl : 43 = k := by omega
      have HF := Lib.hid (hf.out.trans (show findD (43 - 43) 43 c = (0, 0) by rw [Nat.sub_self]; rfl))
      clear hf
      go_wp2
      refine bodyPost_ret (v := .tuple #[.int .i64 0, .int .i64 0]) (by simp [results, Tryd.results47, go_sem]) rfl ⟨?_, hb.trans (hbr.mono hb.size)⟩
      rw [HF.out]
end Go.Proofs.YthcjnkakfpmpbaaDoor
