/- Law CpuRing: adding goes both ways, taking away undoes it; what is turned twice stays; and, or, xor of bits add up. Conditions: none. -/
import Derived.Test.YthcjnkakfpmpbaaDoorC13
namespace Go.Proofs.YthcjnkakfpmpbaaDoor.cpuRing
open Go.RowKit
set_option linter.unusedVariables false
set_option linter.unusedSimpArgs false

set_option maxRecDepth 100000 in
set_option maxHeartbeats 8000000 in
theorem walk (w : World) (a : Int) (ha : -2147483648 ≤ a ∧ a ≤ 2147483647) (b : Int) (hb : -2147483648 ≤ b ∧ b ≤ 2147483647) (hT : TabIs 0 w) :
    Calls Tryd.prog 8 #[.int .i32 a, .int .i32 b] w fun e w' => e = .returned (.bool true) ∧ Below w.heap.size w w' := by
  have hTlt := hT.lt
  obtain ⟨S, hS⟩ : ∃ S, S = wrap32 (a + b) := ⟨_, rfl⟩
  have hSin : -2147483648 ≤ S ∧ S ≤ 2147483647 := hS ▸ wrap32_in _
  have K1 := fun W g c hT htg hB hr => two18_add a b W g c hT htg hB hr ha hb
  have K2 := fun W g c hT htg hB (hx : c[1]? = some (.int .i32 S)) hy => o_sub 0 0 (.slice none 0 0) S b W g c hT htg hB hx hy hSin.1 hSin.2 hb.1 hb.2
  have e2 : wrap32 (S - b) = a := by rw [hS]; exact sub_back a b ha.1 ha.2
  have K3 := fun W g c hT htg hB (hx : c[1]? = some (.int .i32 a)) => o_not 0 0 (.slice none 0 0) a W g c hT htg hB hx ha.1 ha.2
  have e3 : bits BinOp.xor IntKind.i32 (-1) a = -a - 1 := not_is a ha.1 ha.2
  have K4 := fun W g c hT htg hB (hx : c[1]? = some (.int .i32 (-a - 1))) => o_neg 0 0 (.slice none 0 0) (-a - 1) W g c hT htg hB hx (by omega) (by omega)
  have e4 : wrap32 (-(-a - 1)) = wrap32 (a + 1) := neg_not a
  obtain ⟨N1, hN1⟩ : ∃ N, N = wrap32 (a + 1) := ⟨_, rfl⟩
  have K5 := fun W g c hT htg hB hr => two18_lt a b W g c hT htg hB hr ha hb
  have K6 := fun W g c hT htg hB hr => two18_eq a b W g c hT htg hB hr ha hb
  have K7 := fun W g c hT htg hB hr => two18_or a b W g c hT htg hB hr ha hb
  have K8 := fun W g c hT htg hB hr => two18_and a b W g c hT htg hB hr ha hb
  have K9 := fun W g c hT htg hB hr => two18_xor a b W g c hT htg hB hr ha hb
  have K10 := fun W g c hT htg hB hr => two18_mov a b W g c hT htg hB hr ha hb
  have K11 := fun W g c hT htg hB hr => two18_mul a b W g c hT htg hB hr ha hb
  have s1 : wrap32 (bits BinOp.and IntKind.i32 a b + bits BinOp.or IntKind.i32 a b) = S := by rw [hS]; exact and_or_sum a b
  have s2 : wrap32 (bits BinOp.or IntKind.i32 a b - bits BinOp.and IntKind.i32 a b) = bits BinOp.xor IntKind.i32 a b := or_less_and a b
  have s3 : (b01 (decide (a < b)) == 1) = decide (a < b) := by by_cases h : a < b <;> simp [b01, h]
  have s4 : (b01 (a == b) == 1) = (a == b) := by by_cases h : a = b <;> simp [b01, h]
  rw [e2] at K2
  rw [e3] at K3
  rw [e4, ← hN1] at K4
  rw [← hS] at K1
  have hS' := hS.symm
  have hN' := hN1.symm
  generalize bits BinOp.or IntKind.i32 a b = O at *
  generalize bits BinOp.and IntKind.i32 a b = D at *
  generalize bits BinOp.xor IntKind.i32 a b = X at *
  generalize b01 (decide (a < b)) = L at *
  generalize b01 (a == b) = E at *
  obtain ⟨M, hM⟩ : ∃ M, wrap32 (a * b) = M := ⟨_, rfl⟩
  rw [hM] at K11
  have H1 := Lib.hid K1
  have H2 := Lib.hid K2
  have H3 := Lib.hid K3
  have H4 := Lib.hid K4
  have H5 := Lib.hid K5
  have H6 := Lib.hid K6
  have H7 := Lib.hid K7
  have H8 := Lib.hid K8
  have H9 := Lib.hid K9
  have H10 := Lib.hid K10
  have H11 := Lib.hid K11
  have HSin := Lib.hid hSin
  have HA := Lib.hid ha
  have HBb := Lib.hid hb
  clear K1 K2 K3 K4 K5 K6 K7 K8 K9 K10 K11 hS hN1 hSin e2 e3 e4
  go_enter Tryd.func8, Tryd.ntmps8
  go_wp2_with (first
    | (go_at_call 24; refine (fresh_nil w).mono ?_; rintro e w1 ⟨g, c1, rfl, hg, hB1, hr1, hb1⟩; have htg : 0 ≠ g := (by omega); have hT1 := hT.grow hb1; have hC1 := CW.start hB1)
    | (go_at_call 25; (with_reducible refine Calls.mono (H1.out w1 g _ (hC1.tab hT1 htg) htg hC1.blk hr1) ?_); rintro e w2 ⟨rfl, c2, hc2, hr2, h21, h22⟩; have hC2 := hC1.trans hc2)
    | (go_at_call 27; (with_reducible refine Calls.mono (op_sub w2) ?_); rintro e w3 ⟨rfl, hb3⟩; have hC3 := hC2.below hb3)
    | (go_at_call 26; (with_reducible refine Calls.mono (H2.out w3 g _ (hC3.tab hT1 htg) htg hC3.blk h21 h22) ?_); rintro e w4 ⟨rfl, hc4⟩; have hC4 := hC3.trans hc4; have hr4 := hr2.set32 1 (by omega) a; have h41 := hr2.at32 1 (by omega) a)
    | (go_at_call 28; (with_reducible refine Calls.mono (reg_1 a w4 g _ hC4.blk h41) ?_); rintro e wr ⟨rfl, rfl⟩)
    | (go_at_call 29; (with_reducible refine Calls.mono (set18 a b w4 g _ (hC4.tab hT1 htg) htg hC4.blk hr4 HA.out HBb.out) ?_); rintro e w5 ⟨rfl, hc5⟩; have hC5 := hC4.trans hc5; obtain ⟨hr5, h51, h52⟩ := hr4.at_set a b)
    | (go_at_call 27; (with_reducible refine Calls.mono (op_not w5) ?_); rintro e w6 ⟨rfl, hb6⟩; have hC6 := hC5.below hb6)
    | (go_at_call 26; (with_reducible refine Calls.mono (H3.out w6 g _ (hC6.tab hT1 htg) htg hC6.blk h51) ?_); rintro e w7 ⟨rfl, hc7⟩; have hC7 := hC6.trans hc7; have hr7 := hr5.set32 1 (by omega) (-a - 1); have h71 := hr5.at32 1 (by omega) (-a - 1))
    | (go_at_call 27; (with_reducible refine Calls.mono (op_neg w7) ?_); rintro e w8 ⟨rfl, hb8⟩; have hC8 := hC7.below hb8)
    | (go_at_call 26; (with_reducible refine Calls.mono (H4.out w8 g _ (hC8.tab hT1 htg) htg hC8.blk h71) ?_); rintro e w9 ⟨rfl, hc9⟩; have hC9 := hC8.trans hc9; have hr9 := hr7.set32 1 (by omega) N1; have h91 := hr7.at32 1 (by omega) N1)
    | (go_at_call 28; (with_reducible refine Calls.mono (reg_1 N1 w9 g _ hC9.blk h91) ?_); rintro e wr ⟨rfl, rfl⟩)
    | (go_at_call 25; (with_reducible refine Calls.mono (H5.out w9 g _ (hC9.tab hT1 htg) htg hC9.blk hr9) ?_); rintro e w10 ⟨rfl, c10, hc10, hr10, h101, h102⟩; have hC10 := hC9.trans hc10)
    | (go_at_call 25; (with_reducible refine Calls.mono (H6.out w10 g _ (hC10.tab hT1 htg) htg hC10.blk hr10) ?_); rintro e w11 ⟨rfl, c11, hc11, hr11, h111, h112⟩; have hC11 := hC10.trans hc11)
    | (go_at_call 25; (with_reducible refine Calls.mono (H7.out w11 g _ (hC11.tab hT1 htg) htg hC11.blk hr11) ?_); rintro e w12 ⟨rfl, c12, hc12, hr12, h121, h122⟩; have hC12 := hC11.trans hc12)
    | (go_at_call 25; (with_reducible refine Calls.mono (H8.out w12 g _ (hC12.tab hT1 htg) htg hC12.blk hr12) ?_); rintro e w13 ⟨rfl, c13, hc13, hr13, h131, h132⟩; have hC13 := hC12.trans hc13)
    | (go_at_call 25; (with_reducible refine Calls.mono (H9.out w13 g _ (hC13.tab hT1 htg) htg hC13.blk hr13) ?_); rintro e w14 ⟨rfl, c14, hc14, hr14, h141, h142⟩; have hC14 := hC13.trans hc14)
    | (go_at_call 25; (with_reducible refine Calls.mono (H10.out w14 g _ (hC14.tab hT1 htg) htg hC14.blk hr14) ?_); rintro e w15 ⟨rfl, c15, hc15, hr15, h151, h152⟩; have hC15 := hC14.trans hc15)
    | (go_at_call 25; (with_reducible refine Calls.mono (H11.out w15 g _ (hC15.tab hT1 htg) htg hC15.blk hr15) ?_); rintro e w16 ⟨rfl, c16, hc16, hr16, h161, h162⟩; have hC16 := hC15.trans hc16)
    | (go_at_call 30; (with_reducible refine Calls.mono (known18_any w16 (hC16.tab hT1 htg)) ?_); rintro e w17 ⟨rfl, hb17⟩)
    | fail)
  go_ret
  have hz := hb1.trans (hC16.bel (B := w.heap.size) hg)
  exact ⟨by simp, hz.trans (hb17.mono hz.size)⟩
end Go.Proofs.YthcjnkakfpmpbaaDoor.cpuRing
