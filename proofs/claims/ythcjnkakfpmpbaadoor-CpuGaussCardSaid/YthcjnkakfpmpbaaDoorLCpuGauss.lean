/- Law CpuGauss: of small whole numbers: products of complex numbers are exact; turned four times a number stays; with its mirror it makes a whole number without a second part. Conditions: none. -/
import Derived.Test.YthcjnkakfpmpbaaDoorC15
namespace Go.Proofs.YthcjnkakfpmpbaaDoor.cpuGauss
open Go.RowKit
set_option linter.unusedVariables false
set_option linter.unusedSimpArgs false

theorem prod_le (x y : Int) (h0 : -16384 ≤ x) (h1 : x ≤ 16384) (h2 : -16384 ≤ y) (h3 : y ≤ 16384) : -268435456 ≤ x * y ∧ x * y ≤ 268435456 := by
  have h : (x * y).natAbs ≤ 16384 * 16384 := by rw [Int.natAbs_mul]; exact Nat.mul_le_mul (by omega) (by omega)
  omega
/-- turned k times -/
def rot (a b : Int) : Nat → Int × Int
  | 0 => (a, b)
  | k + 1 => (-(rot a b k).2, (rot a b k).1)
theorem Z.eq {c c' : List Value} {j : Nat} {a b : Int} (h : Z c j a b) (ho : c'[8 + j]? = c[8 + j]?) : Z c' j a b := by
  obtain ⟨p, q, h1, h2⟩ := h
  exact ⟨p, q, ho.trans h1, h2⟩
set_option maxRecDepth 100000 in
set_option maxHeartbeats 16000000 in
theorem gen (w : World) (p q r s a b c d : Int) (hT : TabIs 0 w) (ha : p.tdiv 2 = a) (hb : q.tdiv 2 = b) (hc : r.tdiv 2 = c) (hd : s.tdiv 2 = d) (a0 : -16384 ≤ a) (a1 : a ≤ 16384) (b0 : -16384 ≤ b) (b1 : b ≤ 16384) (c0 : -16384 ≤ c) (c1 : c ≤ 16384) (d0 : -16384 ≤ d) (d1 : d ≤ 16384) :
    Calls Tryd.prog 10 #[.int .i16 p, .int .i16 q, .int .i16 r, .int .i16 s] w fun e w' => e = .returned (.bool true) ∧ Below w.heap.size w w' := by
  have hTlt := hT.lt
  have bac := prod_le a c a0 a1 c0 c1
  have bbd := prod_le b d b0 b1 d0 d1
  have bad := prod_le a d a0 a1 d0 d1
  have bbc := prod_le b c b0 b1 c0 c1
  have baa := prod_le a a a0 a1 a0 a1
  have bbb := prod_le b b b0 b1 b0 b1
  have bab := prod_le a b a0 a1 b0 b1
  have sa : Sm a := ⟨by omega, by omega⟩
  have sb : Sm b := ⟨by omega, by omega⟩
  have sc : Sm c := ⟨by omega, by omega⟩
  have sd : Sm d := ⟨by omega, by omega⟩
  have K1 := fun W g cells hT htg hB hr h1 h2 => o_zmul01 0 0 (.slice none 0 0) a b c d W g cells hT htg hB hr h1 h2 ⟨by omega, by omega⟩ ⟨by omega, by omega⟩ ⟨by omega, by omega⟩ ⟨by omega, by omega⟩ ⟨by omega, by omega⟩ ⟨by omega, by omega⟩
  have n1 : a * -b = -(a * b) := Int.mul_neg a b
  have n2 : b * -b = -(b * b) := Int.mul_neg b b
  have n3 : b * a = a * b := Int.mul_comm b a
  have K2 := fun W g cells hT htg hB hr h1 h2 => o_zmul23 0 0 (.slice none 0 0) a b a (-b) W g cells hT htg hB hr h1 h2 ⟨by omega, by omega⟩ ⟨by omega, by omega⟩ ⟨by omega, by omega⟩ ⟨by omega, by omega⟩ ⟨by omega, by omega⟩ ⟨by omega, by omega⟩
  have e1 : a * a - b * -b = a * a + b * b := by omega
  have e2 : a * -b + b * a = 0 := by omega
  rw [e1, e2] at K2
  have K3 := fun W g cells hT htg hB hr h1 h2 => o_zadd21 0 0 (.slice none 0 0) a b c d W g cells hT htg hB hr h1 h2 ⟨by omega, by omega⟩ ⟨by omega, by omega⟩
  have K4 := fun W g cells hT htg hB hr h1 h2 => o_zsub21 0 0 (.slice none 0 0) (a + c) (b + d) c d W g cells hT htg hB hr h1 h2 ⟨by omega, by omega⟩ ⟨by omega, by omega⟩
  rw [show a + c - c = a by omega, show b + d - d = b by omega] at K4
  clear n1 n2 n3 e1 e2 bab
  generalize hac : a * c = AC at *
  generalize hbd : b * d = BD at *
  generalize had : a * d = AD at *
  generalize hbc : b * c = BC at *
  generalize haa : a * a = AA at *
  generalize hbb : b * b = BB at *
  have s1 : Sm (AC - BD) := ⟨by omega, by omega⟩
  have s2 : Sm (AD + BC) := ⟨by omega, by omega⟩
  have s3 : Sm (AA + BB) := ⟨by omega, by omega⟩
  have s4 : Sm 0 := ⟨by omega, by omega⟩
  have H1 := Lib.hid K1
  have H2 := Lib.hid K2
  have H3 := Lib.hid K3
  have H4 := Lib.hid K4
  clear K1 K2 K3 K4
  go_enter Tryd.func10, Tryd.ntmps10
  go_wp2_with (first
    | (go_at_call 24; refine (fresh_nil w).mono ?_; rintro e w1 ⟨g, k1, rfl, hg, hB1, hr1, hb1⟩; have htg : 0 ≠ g := (by omega); have hT1 := hT.grow hb1; have hC1 := CW.start hB1)
    | (go_at_call 31; (with_reducible refine Calls.mono (put18_0 a b w1 g k1 hT1 htg hB1 hr1 sa sb) ?_); rintro e w2 ⟨rfl, k2, hc2, hr2, z2, o2⟩; have hC2 := hC1.trans hc2)
    | (go_at_call 31; (with_reducible refine Calls.mono (put18_1 c d w2 g k2 (hC2.tab hT1 htg) htg hC2.blk hr2 sc sd) ?_); rintro e w3 ⟨rfl, k3, hc3, hr3, z31, o3⟩; have hC3 := hC2.trans hc3; have z30 := z2.oth o3 (by omega) (by omega))
    | (go_at_call 27; (with_reducible refine Calls.mono (op_zmul01 w3) ?_); rintro e w4 ⟨rfl, hb4⟩; have hC4 := hC3.below hb4)
    | (go_at_call 26; (with_reducible refine Calls.mono (H1.out w4 g k3 (hC4.tab hT1 htg) htg hC4.blk hr3 z30 z31) ?_); rintro e w5 ⟨rfl, k5, hc5, hr5, z50, o5⟩; have hC5 := hC4.trans hc5; have z51 := z31.oth o5 (by omega) (by omega))
    | (go_at_call 32; (with_reducible refine Calls.mono (parts18_0 (AC - BD) (AD + BC) w5 g k5 (hC5.tab hT1 htg) htg hC5.blk hr5 z50 s1 s2) ?_); rintro e w6 ⟨rfl, k6, hc6, hr6, o6⟩; have hC6 := hC5.trans hc6; have z61 := Z.eq z51 (o6 1 (by omega)))
    | (go_at_call 31; (with_reducible refine Calls.mono (put18_2 a b w6 g k6 (hC6.tab hT1 htg) htg hC6.blk hr6 sa sb) ?_); rintro e w7 ⟨rfl, k7, hc7, hr7, z72, o7⟩; have hC7 := hC6.trans hc7; have z71 := z61.oth o7 (by omega) (by omega))
    | fail)
  go_loopw [17] (fun i wr => ∃ (k : Nat) (kc : List Value), i = .int .i64 k ∧ k ≤ 4 ∧ CW w1 g kc wr ∧ RG kc ∧ Z kc 1 c d ∧ Z kc 2 (rot a b k).1 (rot a b k).2) (fun i _ => 4 - (intOf i).toNat)
  case atStart => exact ⟨0, k7, rfl, Nat.zero_le _, hC7, hr7, z71, z72⟩
  case round =>
    obtain ⟨k, kc, rfl, hk, hC, hr, z1, z2⟩ := hrel
    by_cases hlt : k < 4
    · have hI : (k : Int) < 4 := by omega
      go_wp2_with (first
        | (go_at_call 27; (with_reducible refine Calls.mono (op_zturn wr) ?_); rintro e w8 ⟨rfl, hb8⟩; have hC8 := hC.below hb8)
        | (go_at_call 26; (with_reducible refine Calls.mono (o_zturn 0 0 (.slice none 0 0) (rot a b k).1 (rot a b k).2 w8 g kc (hC8.tab hT1 htg) htg hC8.blk hr z2) ?_); rintro e w9 ⟨rfl, k9, hc9, hr9, z92, o9⟩; have hC9 := hC8.trans hc9; have z91 := z1.oth o9 (by omega) (by omega))
        | fail)
      go_roundw
      case rel => exact ⟨k + 1, k9, by go_num, by omega, hC9, hr9, z91, z92⟩
      case measure => simp [intOf]; omega
    · obtain rfl : k = 4 := by omega
      have hrot : rot a b 4 = (a, b) := by simp [rot]
      rw [hrot] at z2
      simp only at z2
      go_wp2_with (first
        | (go_at_call 32; (with_reducible refine Calls.mono (parts18_2 a b wr g kc (hC.tab hT1 htg) htg hC.blk hr z2 sa sb) ?_); rintro e v1 ⟨rfl, m1, xc1, xr1, xo1⟩; have X1 := hC.trans xc1; have y11 := Z.eq z1 (xo1 1 (by omega)); have y12 := Z.eq z2 (xo1 2 (by omega)))
        | (go_at_call 27; (with_reducible refine Calls.mono (op_zmov32 v1) ?_); rintro e v2 ⟨rfl, xb2⟩; have X2 := X1.below xb2)
        | (go_at_call 26; (with_reducible refine Calls.mono (o_zmov32 0 0 (.slice none 0 0) a b v2 g m1 (X2.tab hT1 htg) htg X2.blk xr1 y12) ?_); rintro e v3 ⟨rfl, m3, xc3, xr3, y33, xo3⟩; have X3 := X2.trans xc3; have y31 := y11.oth xo3 (by omega) (by omega); have y32 := y12.oth xo3 (by omega) (by omega))
        | (go_at_call 27; (with_reducible refine Calls.mono (op_zconj v3) ?_); rintro e v4 ⟨rfl, xb4⟩; have X4 := X3.below xb4)
        | (go_at_call 26; (with_reducible refine Calls.mono (o_zconj 0 0 (.slice none 0 0) a b v4 g m3 (X4.tab hT1 htg) htg X4.blk xr3 y33) ?_); rintro e v5 ⟨rfl, m5, xc5, xr5, y53, xo5⟩; have X5 := X4.trans xc5; have y51 := y31.oth xo5 (by omega) (by omega); have y52 := y32.oth xo5 (by omega) (by omega))
        | (go_at_call 27; (with_reducible refine Calls.mono (op_zmul23 v5) ?_); rintro e v6 ⟨rfl, xb6⟩; have X6 := X5.below xb6)
        | (go_at_call 26; (with_reducible refine Calls.mono (H2.out v6 g m5 (X6.tab hT1 htg) htg X6.blk xr5 y52 y53) ?_); rintro e v7 ⟨rfl, m7, xc7, xr7, y72, xo7⟩; have X7 := X6.trans xc7; have y71 := y51.oth xo7 (by omega) (by omega))
        | (go_at_call 32; (with_reducible refine Calls.mono (parts18_2 (AA + BB) 0 v7 g m7 (X7.tab hT1 htg) htg X7.blk xr7 y72 s3 s4) ?_); rintro e v8 ⟨rfl, m8, xc8, xr8, xo8⟩; have X8 := X7.trans xc8; have y81 := Z.eq y71 (xo8 1 (by omega)))
        | (go_at_call 31; (with_reducible refine Calls.mono (put18_2 a b v8 g m8 (X8.tab hT1 htg) htg X8.blk xr8 sa sb) ?_); rintro e v9 ⟨rfl, m9, xc9, xr9, y92, xo9⟩; have X9 := X8.trans xc9; have y91 := y81.oth xo9 (by omega) (by omega))
        | (go_at_call 27; (with_reducible refine Calls.mono (op_zadd21 v9) ?_); rintro e v10 ⟨rfl, xb10⟩; have X10 := X9.below xb10)
        | (go_at_call 26; (with_reducible refine Calls.mono (H3.out v10 g m9 (X10.tab hT1 htg) htg X10.blk xr9 y92 y91) ?_); rintro e v11 ⟨rfl, m11, xc11, xr11, ya2, xo11⟩; have X11 := X10.trans xc11; have ya1 := y91.oth xo11 (by omega) (by omega))
        | (go_at_call 27; (with_reducible refine Calls.mono (op_zsub21 v11) ?_); rintro e v12 ⟨rfl, xb12⟩; have X12 := X11.below xb12)
        | (go_at_call 26; (with_reducible refine Calls.mono (H4.out v12 g m11 (X12.tab hT1 htg) htg X12.blk xr11 ya2 ya1) ?_); rintro e v13 ⟨rfl, m13, xc13, xr13, yb2, xo13⟩; have X13 := X12.trans xc13)
        | (go_at_call 32; (with_reducible refine Calls.mono (parts18_2 a b v13 g m13 (X13.tab hT1 htg) htg X13.blk xr13 yb2 sa sb) ?_); rintro e v14 ⟨rfl, m14, xc14, xr14, xo14⟩; have X14 := X13.trans xc14)
        | (go_at_call 30; (with_reducible refine Calls.mono (known18_any v14 (X14.tab hT1 htg)) ?_); rintro e v15 ⟨rfl, xb15⟩)
        | fail)
      go_ret
      have hz := hb1.trans (X14.bel (B := w.heap.size) hg)
      exact ⟨by simp, hz.trans (xb15.mono hz.size)⟩
theorem half (p : Int) (h0 : -32768 ≤ p) (h1 : p ≤ 32767) : -16384 ≤ p.tdiv 2 ∧ p.tdiv 2 ≤ 16384 := by
  have h : (p.tdiv 2).natAbs = p.natAbs / (2 : Int).natAbs := Int.natAbs_tdiv p 2
  have h2 : (2 : Int).natAbs = 2 := rfl
  rw [h2] at h
  omega
theorem walk (w : World) (p : Int) (hp : -32768 ≤ p ∧ p ≤ 32767) (q : Int) (hq : -32768 ≤ q ∧ q ≤ 32767) (r : Int) (hr : -32768 ≤ r ∧ r ≤ 32767) (s : Int) (hs : -32768 ≤ s ∧ s ≤ 32767) (hT : TabIs 0 w) :
    Calls Tryd.prog 10 #[.int .i16 p, .int .i16 q, .int .i16 r, .int .i16 s] w fun e w' => e = .returned (.bool true) ∧ Below w.heap.size w w' := by
  obtain ⟨p0, p1⟩ := half p hp.1 hp.2
  obtain ⟨q0, q1⟩ := half q hq.1 hq.2
  obtain ⟨r0, r1⟩ := half r hr.1 hr.2
  obtain ⟨s0, s1⟩ := half s hs.1 hs.2
  exact gen w p q r s _ _ _ _ hT rfl rfl rfl rfl p0 p1 q0 q1 r0 r1 s0 s1
end Go.Proofs.YthcjnkakfpmpbaaDoor.cpuGauss
