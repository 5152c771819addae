/- Law CpuDivides: what a division leaves out is nearer to 0 than the divisor and has the sign of what was divided. Conditions: none. -/
import Derived.Test.YthcjnkakfpmpbaaDoorC14
namespace Go.Proofs.YthcjnkakfpmpbaaDoor.cpuDivides
open Go.RowKit
set_option linter.unusedVariables false
set_option linter.unusedSimpArgs false

set_option maxRecDepth 100000 in
set_option maxHeartbeats 8000000 in
theorem zero (w : World) (a : Int) (ha : -2147483648 ≤ a ∧ a ≤ 2147483647) (hT : TabIs 0 w) :
    Calls Tryd.prog 9 #[.int .i32 a, .int .i32 0] w fun e w' => e = .returned (.bool true) ∧ Below w.heap.size w w' := by
  have hTlt := hT.lt
  have hb : -2147483648 ≤ (0 : Int) ∧ (0 : Int) ≤ 2147483647 := by omega
  go_enter Tryd.func9, Tryd.ntmps9
  go_wp2_with (first
    | (go_at_call 24; refine (fresh_nil w).mono ?_; rintro e w1 ⟨g, c1, rfl, hg, hB1, hr1, hb1⟩; have htg : 0 ≠ g := (by omega); have hT1 := hT.grow hb1; have hC1 := CW.start hB1)
    | (go_at_call 27; (with_reducible refine Calls.mono (op_li1 a w1) ?_); rintro e w2 ⟨rfl, hb2⟩; have hC2 := hC1.below hb2)
    | (go_at_call 26; (with_reducible refine Calls.mono (o_li1 0 0 _ a w2 g c1 (hC2.tab hT1 htg) htg hC2.blk ha hr1) ?_); rintro e w3 ⟨rfl, hc3⟩; have hC3 := hC2.trans hc3; have hr3 := hr1.set32 1 (by omega) (a))
    | (go_at_call 27; (with_reducible refine Calls.mono (op_li2 0 w3) ?_); rintro e w4 ⟨rfl, hb4⟩; have hC4 := hC3.below hb4)
    | (go_at_call 26; (with_reducible refine Calls.mono (o_li2 0 0 _ 0 w4 g _ (hC4.tab hT1 htg) htg hC4.blk hb hr3) ?_); rintro e w5 ⟨rfl, hc5⟩; have hC5 := hC4.trans hc5; obtain ⟨hr5, h51, h52⟩ := hr1.at_set (a) (0))
    | (go_at_call 27; (with_reducible refine Calls.mono (op_div w5) ?_); rintro e w6 ⟨rfl, hb6⟩; have hC6 := hC5.below hb6)
    | (go_at_call 26; (with_reducible refine Calls.mono (o_div0 0 0 _ a w6 g _ (hC6.tab hT1 htg) htg hC6.blk h51 h52) ?_); rintro e w7 ⟨rfl, hc7⟩; have hC7 := (hC6.trans hc7).alloc (.cells #[.int .i64 6, .int .i64 2, .int .u32 0] 56))
    | (go_at_call 28; refine Calls.mono (reg_1 a _ g _ hC7.blk h51) ?_; rintro e w8 ⟨rfl, rfl⟩)
    | (go_at_call 30; refine Calls.mono (known18_any _ (hC7.tab hT1 htg)) ?_; rintro e w9 ⟨rfl, hb9⟩)
    | fail)
  go_ret
  have hz := hb1.trans (hC7.bel (B := w.heap.size) hg)
  exact ⟨by simp, hz.trans (hb9.mono hz.size)⟩

set_option maxRecDepth 100000 in
set_option maxHeartbeats 8000000 in
theorem most (w : World) (hT : TabIs 0 w) (hb : -2147483648 ≤ (-1 : Int) ∧ (-1 : Int) ≤ 2147483647) (ha : -2147483648 ≤ (-2147483648 : Int) ∧ (-2147483648 : Int) ≤ 2147483647) :
    Calls Tryd.prog 9 #[.int .i32 (-2147483648), .int .i32 (-1)] w fun e w' => e = .returned (.bool true) ∧ Below w.heap.size w w' := by
  have hTlt := hT.lt
  have K := fun W g c hT htg hB hx hy => o_div 0 0 (.slice none 0 0) (-2147483648) (-1) W g c hT htg hB hx hy ha.1 ha.2 hb.1 hb.2 (by decide) (by decide)
  rw [show wrap32 ((-2147483648 : Int).tdiv (-1)) = -2147483648 from by kernel_rfl] at K
  have HK := Lib.hid K
  clear K
  go_enter Tryd.func9, Tryd.ntmps9
  go_wp2_with (first
    | (go_at_call 24; refine (fresh_nil w).mono ?_; rintro e w1 ⟨g, c1, rfl, hg, hB1, hr1, hb1⟩; have htg : 0 ≠ g := (by omega); have hT1 := hT.grow hb1; have hC1 := CW.start hB1)
    | (go_at_call 27; (with_reducible refine Calls.mono (op_li1 (-2147483648) w1) ?_); rintro e w2 ⟨rfl, hb2⟩; have hC2 := hC1.below hb2)
    | (go_at_call 26; (with_reducible refine Calls.mono (o_li1 0 0 _ (-2147483648) w2 g c1 (hC2.tab hT1 htg) htg hC2.blk ha hr1) ?_); rintro e w3 ⟨rfl, hc3⟩; have hC3 := hC2.trans hc3; have hr3 := hr1.set32 1 (by omega) ((-2147483648)))
    | (go_at_call 27; (with_reducible refine Calls.mono (op_li2 (-1) w3) ?_); rintro e w4 ⟨rfl, hb4⟩; have hC4 := hC3.below hb4)
    | (go_at_call 26; (with_reducible refine Calls.mono (o_li2 0 0 _ (-1) w4 g _ (hC4.tab hT1 htg) htg hC4.blk hb hr3) ?_); rintro e w5 ⟨rfl, hc5⟩; have hC5 := hC4.trans hc5; obtain ⟨hr5, h51, h52⟩ := hr1.at_set ((-2147483648)) ((-1)))
    | (go_at_call 27; (with_reducible refine Calls.mono (op_div w5) ?_); rintro e w6 ⟨rfl, hb6⟩; have hC6 := hC5.below hb6)
    | (go_at_call 26; (with_reducible refine Calls.mono (HK.out w6 g _ (hC6.tab hT1 htg) htg hC6.blk h51 h52) ?_); rintro e w7 ⟨rfl, hc7⟩; have hC7 := (hC6.trans hc7).alloc (.cells #[.int .i64 0, .int .i64 0, .int .u32 0] 56); have h71 := hr5.at32 1 (by omega) (-2147483648))
    | (go_at_call 28; refine Calls.mono (reg_1 (-2147483648) _ g _ hC7.blk h71) ?_; rintro e w8 ⟨rfl, rfl⟩)
    | (go_at_call 30; refine Calls.mono (known18_any _ (hC7.tab hT1 htg)) ?_; rintro e w9 ⟨rfl, hb9⟩)
    | fail)
  go_ret
  have hz := hb1.trans (hC7.bel (B := w.heap.size) hg)
  exact ⟨by simp, hz.trans (hb9.mono hz.size)⟩

set_option maxRecDepth 100000 in
set_option maxHeartbeats 32000000 in
theorem gen (w : World) (a : Int) (ha : -2147483648 ≤ a ∧ a ≤ 2147483647) (b : Int) (hb : -2147483648 ≤ b ∧ b ≤ 2147483647) (hT : TabIs 0 w) (h0 : (b == 0) = false) (h00 : ¬ b = 0) (Q P R : Int) (hQ : wrap32 (a.tdiv b) = Q) (hP : Q * b = P) (hQ0 : -2147483648 ≤ Q) (hQ1 : Q ≤ 2147483647) (hP0 : -2147483648 ≤ P) (hP1 : P ≤ 2147483648)
    (hR : a - P = R) (hR0 : -2147483648 < R) (hR1 : R < 2147483648) (hm : ((a == -2147483648) = false) ∨ ((a == -2147483648) = true ∧ (b == -1) = false)) (hb2 : (b < 0 ∧ R < 0 ∧ a < 0 ∧ -R < -b) ∨ (b < 0 ∧ R = 0) ∨ (b < 0 ∧ 0 < R ∧ 0 < a ∧ R < -b) ∨ (0 < b ∧ R < 0 ∧ a < 0 ∧ -R < b) ∨ (0 < b ∧ R = 0) ∨ (0 < b ∧ 0 < R ∧ 0 < a ∧ R < b)) :
    Calls Tryd.prog 9 #[.int .i32 a, .int .i32 b] w fun e w' => e = .returned (.bool true) ∧ Below w.heap.size w w' := by
  have hTlt := hT.lt
  have K := fun W g c hT htg hB hx hy => o_div 0 0 (.slice none 0 0) a b W g c hT htg hB hx hy ha.1 ha.2 hb.1 hb.2 h0 h00
  rw [hQ] at K
  have HK := Lib.hid K
  clear K hQ
  rcases hm with hm1 | ⟨hm1, hm2⟩ <;> rcases hb2 with ⟨g1, g2, g3, g4⟩ | ⟨g1, g2⟩ | ⟨g1, g2, g3, g4⟩ | ⟨g1, g2, g3, g4⟩ | ⟨g1, g2⟩ | ⟨g1, g2, g3, g4⟩
  all_goals
    go_enter Tryd.func9, Tryd.ntmps9
    go_wp2_with (first
      | (go_at_call 24; refine (fresh_nil w).mono ?_; rintro e w1 ⟨g, c1, rfl, hg, hB1, hr1, hb1⟩; have htg : 0 ≠ g := (by omega); have hT1 := hT.grow hb1; have hC1 := CW.start hB1)
      | (go_at_call 27; (with_reducible refine Calls.mono (op_li1 a w1) ?_); rintro e w2 ⟨rfl, hb2⟩; have hC2 := hC1.below hb2)
      | (go_at_call 26; (with_reducible refine Calls.mono (o_li1 0 0 _ a w2 g c1 (hC2.tab hT1 htg) htg hC2.blk ha hr1) ?_); rintro e w3 ⟨rfl, hc3⟩; have hC3 := hC2.trans hc3; have hr3 := hr1.set32 1 (by omega) (a))
      | (go_at_call 27; (with_reducible refine Calls.mono (op_li2 b w3) ?_); rintro e w4 ⟨rfl, hb4⟩; have hC4 := hC3.below hb4)
      | (go_at_call 26; (with_reducible refine Calls.mono (o_li2 0 0 _ b w4 g _ (hC4.tab hT1 htg) htg hC4.blk hb hr3) ?_); rintro e w5 ⟨rfl, hc5⟩; have hC5 := hC4.trans hc5; obtain ⟨hr5, h51, h52⟩ := hr1.at_set (a) (b))
      | (go_at_call 27; (with_reducible refine Calls.mono (op_div w5) ?_); rintro e w6 ⟨rfl, hb6⟩; have hC6 := hC5.below hb6)
      | (go_at_call 26; (with_reducible refine Calls.mono (HK.out w6 g _ (hC6.tab hT1 htg) htg hC6.blk h51 h52) ?_); rintro e w7 ⟨rfl, hc7⟩; have hC7 := (hC6.trans hc7).alloc (.cells #[.int .i64 0, .int .i64 0, .int .u32 0] 56); have h71 := hr5.at32 1 (by omega) Q)
      | (go_at_call 28; refine Calls.mono (reg_1 Q _ g _ hC7.blk h71) ?_; rintro e w8 ⟨rfl, rfl⟩)
      | (go_at_call 30; refine Calls.mono (known18_any _ (hC7.tab hT1 htg)) ?_; rintro e w9 ⟨rfl, hb9⟩)
      | fail)
    go_ret
    have hz := hb1.trans (hC7.bel (B := w.heap.size) hg)
    exact ⟨by simp, hz.trans (hb9.mono hz.size)⟩
theorem div_facts (a b : Int) (ha : -2147483648 ≤ a ∧ a ≤ 2147483647) (h0 : ¬ b = 0) (h1 : ¬ (a = -2147483648 ∧ b = -1)) :
    ∃ q p r : Int, a.tdiv b = q ∧ q * b = p ∧ a - p = r ∧ -2147483648 ≤ q ∧ q ≤ 2147483647 ∧ (0 ≤ a → 0 ≤ r) ∧ (a ≤ 0 → r ≤ 0) ∧ r.natAbs < b.natAbs ∧ r.natAbs ≤ a.natAbs := by
  obtain ⟨r, hr, r1, r2, r3⟩ := div_rest a b h0
  have hq : (a.tdiv b).natAbs = a.natAbs / b.natAbs := Int.natAbs_tdiv a b
  have hqa : a.natAbs / b.natAbs ≤ a.natAbs := Nat.div_le_self _ _
  have hq2 : a.tdiv b ≠ 2147483648 := by
    intro h
    rw [h] at hq
    have h3 : b.natAbs = 1 := by
      rcases Nat.lt_or_ge b.natAbs 2 with h5 | h5
      · omega
      · have h6 : a.natAbs / b.natAbs ≤ a.natAbs / 2 := Nat.div_le_div_left h5 (by omega)
        have h7 : (2147483648 : Int).natAbs = 2147483648 := rfl
        omega
    have : b = 1 ∨ b = -1 := by omega
    rcases this with rfl | rfl
    · rw [Int.tdiv_one] at h; omega
    · rw [h3, Nat.div_one] at hq
      have h7 : (2147483648 : Int).natAbs = 2147483648 := rfl
      omega
  have hra : r.natAbs ≤ a.natAbs := by
    have h7 : r = a.tmod b := by
      have h := Int.mul_tdiv_add_tmod a b
      rw [hr, Int.mul_comm (a.tdiv b) b]; omega
    rw [h7, Int.natAbs_tmod]
    exact Nat.mod_le _ _
  obtain ⟨q, hqq⟩ : ∃ q, a.tdiv b = q := ⟨_, rfl⟩
  rw [hqq] at hr hq hq2
  obtain ⟨p, hp⟩ : ∃ p, q * b = p := ⟨_, rfl⟩
  rw [hp] at hr
  exact ⟨q, p, r, hqq, hp, hr.symm, by clear hp hr hqq r1 r2 r3 hra; omega, by clear hp hr hqq r1 r2 r3 hra; omega, r1, r2, r3, hra⟩
theorem wrap32_id (q : Int) (h0 : -2147483648 ≤ q) (h1 : q ≤ 2147483647) : wrap32 q = q := by unfold wrap32; omega
theorem six (a b r : Int) (h0 : ¬ b = 0) (r1 : 0 ≤ a → 0 ≤ r) (r2 : a ≤ 0 → r ≤ 0) (r3 : r.natAbs < b.natAbs) :
    (b < 0 ∧ r < 0 ∧ a < 0 ∧ -r < -b) ∨ (b < 0 ∧ r = 0) ∨ (b < 0 ∧ 0 < r ∧ 0 < a ∧ r < -b) ∨ (0 < b ∧ r < 0 ∧ a < 0 ∧ -r < b) ∨ (0 < b ∧ r = 0) ∨ (0 < b ∧ 0 < r ∧ 0 < a ∧ r < b) := by omega
theorem walk (w : World) (a : Int) (ha : -2147483648 ≤ a ∧ a ≤ 2147483647) (b : Int) (hb : -2147483648 ≤ b ∧ b ≤ 2147483647) (hT : TabIs 0 w) :
    Calls Tryd.prog 9 #[.int .i32 a, .int .i32 b] w fun e w' => e = .returned (.bool true) ∧ Below w.heap.size w w' := by
  by_cases h0 : b = 0
  · subst h0
    exact zero w a ha hT
  by_cases h1 : a = -2147483648 ∧ b = -1
  · obtain ⟨rfl, rfl⟩ := h1
    exact most w hT hb ha
  obtain ⟨q, p, r, hq, hp, hr, q0, q1, r1, r2, r3, r4⟩ := div_facts a b ha h0 h1
  have hm : ((a == -2147483648) = false) ∨ ((a == -2147483648) = true ∧ (b == -1) = false) := by
    by_cases h2 : a = -2147483648
    · exact .inr ⟨by simpa using h2, by simpa using fun h3 => h1 ⟨h2, h3⟩⟩
    · exact .inl (by simpa using h2)
  have e0 : -2147483648 ≤ p ∧ p ≤ 2147483648 ∧ -2147483648 < r ∧ r < 2147483648 := by clear hq hp hm; omega
  exact gen w a ha b hb hT (by simpa using h0) h0 q p r (by rw [hq]; exact wrap32_id q q0 q1) hp q0 q1 e0.1 e0.2.1 hr e0.2.2.1 e0.2.2.2 hm (six a b r h0 r1 r2 r3)
end Go.Proofs.YthcjnkakfpmpbaaDoor.cpuDivides
