/- Law CpuNumbers: chapter 18's runs. Conditions: none. -/
import Derived.Test.YthcjnkakfpmpbaaDoorJ1
namespace Go.Proofs.YthcjnkakfpmpbaaDoor.cpuNumbers
open Go.RowKit
set_option linter.unusedVariables false
set_option linter.unusedSimpArgs false

set_option maxRecDepth 100000 in
set_option maxHeartbeats 16000000 in
theorem walk (w : World) (hT : TabIs 0 w) : Calls Tryd.prog 12 #[] w fun e w' => e = .returned (.bool true) ∧ Below w.heap.size w w' := by
  have htb : 0 < w.heap.size := hT.lt
  obtain ⟨o, hmk⟩ : ∃ o : Obj, ∀ w, (Instr.makeSlice 67 (.int .i64 4097) (.int .i64 4097)).run Tryd.prog w = .ok (.slice (some ⟨w.heap.size, 0, none⟩) 4097 4097) (w.alloc o) :=
    by
    have h32 : (Tryd.prog.info? 21).map (fun i => (i.zero, i.size, i.bytes)) = some (some (.int .i32 0), 1, 4) := by kernel_rfl
    obtain ⟨i0, hi0, hi1⟩ : ∃ i, Tryd.prog.info? 21 = some i ∧ (i.zero, i.size, i.bytes) = (some (.int .i32 0), 1, 4) := by
      cases hh : Tryd.prog.info? 21 with
      | none => rw [hh] at h32; cases h32
      | some i => rw [hh] at h32; exact ⟨i, rfl, by simpa using h32⟩
    simp only [Prod.mk.injEq] at hi1
    exact ⟨_, fun w => run_make w _ 21 i0 _ Tryd.underlying67 hi0 hi1.1 .i64 .i64 4097 4097 (by omega) (by omega) (by rw [hi1.2.2]; decide) (by omega)⟩
  have hf0 : ∀ (a b c : Int) (w : World), (Instr.field 56 (.agg #[.int .i64 a, .int .i64 b, .int .u32 c]) 0).run Tryd.prog w = .ok (.int .i64 a) w := by intro a b c w; kernel_rfl
  go_enter Tryd.func12, Tryd.ntmps12
  go_wp2_with (first
    | rw [hmk]
    | (go_at_call 33; refine (new_much _ 4097 _ _ (by omega)).mono ?_; rintro e w0 ⟨rfl, rfl⟩)
    | (go_at_call 24; refine (fresh3 _).mono ?_; rintro e w1 ⟨g, A0, c0, rfl, hg, hBg, hb1, hM1⟩; rw [World.size_alloc] at hg; have hB1 : Below w.heap.size w w1 := ((Below.refl _ _).alloc (Nat.le_refl _) _).trans (hb1.mono (by simp)); have hT1 := hT.grow hB1; have htg : 0 ≠ g := by omega)
    | (go_at_call 28; (with_reducible refine Calls.mono (reg_none (-1) w1 g (Or.inl (by omega))) ?_); rintro e wr ⟨rfl, rfl⟩)
    | (go_at_call 28; (with_reducible refine Calls.mono (reg_none 8 w1 g (Or.inr (by omega))) ?_); rintro e wr ⟨rfl, rfl⟩)
    | (go_at_call 35; refine (trace_any _ w1 _ g 0 0 hM1 (by omega)).mono ?_; rintro e w2 ⟨A8, c8, rfl, hb2⟩; have hM2 := hM1.below hb2; have hB2 : Below w1.heap.size w1 w2 := hb2)
    | (go_at_call 39; refine (depth_any _ w2 _ g 0 0 hM2).mono ?_; rintro e wr ⟨rfl, rfl⟩)
    | (go_at_call 27; (with_reducible refine Calls.mono (op_lis1_3  w2) ?_); rintro e w3 ⟨rfl, hb3⟩; have hB3 := hB2.trans (hb3.mono hB2.size))
    | (go_at_call 27; (with_reducible refine Calls.mono (op_lis2_4  w3) ?_); rintro e w4 ⟨rfl, hb4⟩; have hB4 := hB3.trans (hb4.mono hB3.size))
    | (go_at_call 27; (with_reducible refine Calls.mono (op_zset  w4) ?_); rintro e w5 ⟨rfl, hb5⟩; have hB5 := hB4.trans (hb5.mono hB4.size))
    | (go_at_call 27; (with_reducible refine Calls.mono (op_zmul  w5) ?_); rintro e w6 ⟨rfl, hb6⟩; have hB6 := hB5.trans (hb6.mono hB5.size))
    | (go_at_call 27; (with_reducible refine Calls.mono (op_zim40  w6) ?_); rintro e w7 ⟨rfl, hb7⟩; have hB7 := hB6.trans (hb7.mono hB6.size))
    | (go_at_call 40; (with_reducible refine Calls.mono (ra_does w7 (hT1.grow hB7)) ?_); rintro e w8 ⟨rfl, hb8⟩; have hB8 : Below w1.heap.size w1 w8 := (hB7.alloc hB7.size _).trans (hb8.mono (by have := hB7.size; omega)))
    | (go_at_call 27; (with_reducible refine Calls.mono (op_li1 2147483647 w8) ?_); rintro e w9 ⟨rfl, hb9⟩; have hB9 := hB8.trans (hb9.mono hB8.size))
    | (go_at_call 27; (with_reducible refine Calls.mono (op_add11  w9) ?_); rintro e w10 ⟨rfl, hb10⟩; have hB10 := hB9.trans (hb10.mono hB9.size))
    | (go_at_call 40; (with_reducible refine Calls.mono (rb_does w10 (hT1.grow hB10)) ?_); rintro e w11 ⟨rfl, hb11⟩; have hB11 : Below w1.heap.size w1 w11 := (hB10.alloc hB10.size _).trans (hb11.mono (by have := hB10.size; omega)))
    | (go_at_call 27; (with_reducible refine Calls.mono (op_li1 (-2147483648) w11) ?_); rintro e w12 ⟨rfl, hb12⟩; have hB12 := hB11.trans (hb12.mono hB11.size))
    | (go_at_call 27; (with_reducible refine Calls.mono (op_lis2_m1  w12) ?_); rintro e w13 ⟨rfl, hb13⟩; have hB13 := hB12.trans (hb13.mono hB12.size))
    | (go_at_call 27; (with_reducible refine Calls.mono (op_div  w13) ?_); rintro e w14 ⟨rfl, hb14⟩; have hB14 := hB13.trans (hb14.mono hB13.size))
    | (go_at_call 40; (with_reducible refine Calls.mono (rc_does w14 (hT1.grow hB14)) ?_); rintro e w15 ⟨rfl, hb15⟩; have hB15 : Below w1.heap.size w1 w15 := (hB14.alloc hB14.size _).trans (hb15.mono (by have := hB14.size; omega)))
    | (go_at_call 27; (with_reducible refine Calls.mono (op_lis1_1  w15) ?_); rintro e w16 ⟨rfl, hb16⟩; have hB16 := hB15.trans (hb16.mono hB15.size))
    | (go_at_call 27; (with_reducible refine Calls.mono (op_lis2_32  w16) ?_); rintro e w17 ⟨rfl, hb17⟩; have hB17 := hB16.trans (hb17.mono hB16.size))
    | (go_at_call 27; (with_reducible refine Calls.mono (op_shl12  w17) ?_); rintro e w18 ⟨rfl, hb18⟩; have hB18 := hB17.trans (hb18.mono hB17.size))
    | (go_at_call 40; (with_reducible refine Calls.mono (rd_does w18 (hT1.grow hB18)) ?_); rintro e w19 ⟨rfl, hb19⟩; have hB19 : Below w1.heap.size w1 w19 := (hB18.alloc hB18.size _).trans (hb19.mono (by have := hB18.size; omega)))
    | (go_at_call 27; (with_reducible refine Calls.mono (op_zturn1  w19) ?_); rintro e w20 ⟨rfl, hb20⟩; have hB20 := hB19.trans (hb20.mono hB19.size))
    | (go_at_call 27; (with_reducible refine Calls.mono (op_zconj1  w20) ?_); rintro e w21 ⟨rfl, hb21⟩; have hB21 := hB20.trans (hb21.mono hB20.size))
    | (go_at_call 27; (with_reducible refine Calls.mono (op_zim11  w21) ?_); rintro e w22 ⟨rfl, hb22⟩; have hB22 := hB21.trans (hb22.mono hB21.size))
    | (go_at_call 40; (with_reducible refine Calls.mono (re_does w22 (hT1.grow hB22)) ?_); rintro e w23 ⟨rfl, hb23⟩; have hB23 : Below w1.heap.size w1 w23 := (hB22.alloc hB22.size _).trans (hb23.mono (by have := hB22.size; omega)))
    | (go_at_call 27; (with_reducible refine Calls.mono (op_lis2_19  w23) ?_); rintro e w24 ⟨rfl, hb24⟩; have hB24 := hB23.trans (hb24.mono hB23.size))
    | (go_at_call 27; (with_reducible refine Calls.mono (op_ldb12  w24) ?_); rintro e w25 ⟨rfl, hb25⟩; have hB25 := hB24.trans (hb25.mono hB24.size))
    | (go_at_call 40; (with_reducible refine Calls.mono (rf_does w25 (hT1.grow hB25)) ?_); rintro e w26 ⟨rfl, hb26⟩; have hB26 : Below w1.heap.size w1 w26 := (hB25.alloc hB25.size _).trans (hb26.mono (by have := hB25.size; omega)))
    | (go_at_call 27; (with_reducible refine Calls.mono (op_lis2_16  w26) ?_); rintro e w27 ⟨rfl, hb27⟩; have hB27 := hB26.trans (hb27.mono hB26.size))
    | (go_at_call 27; (with_reducible refine Calls.mono (op_ldw12  w27) ?_); rintro e w28 ⟨rfl, hb28⟩; have hB28 := hB27.trans (hb28.mono hB27.size))
    | (go_at_call 40; (with_reducible refine Calls.mono (rg_does w28 (hT1.grow hB28)) ?_); rintro e w29 ⟨rfl, hb29⟩; have hB29 : Below w1.heap.size w1 w29 := (hB28.alloc hB28.size _).trans (hb29.mono (by have := hB28.size; omega)))
    | (go_at_call 27; (with_reducible refine Calls.mono (op_npop w29) ?_); rintro e w30 ⟨rfl, hb30⟩; have hB30 := hB29.trans (hb30.mono hB29.size))
    | (go_at_call 27; (with_reducible refine Calls.mono (op_div w30) ?_); rintro e w31 ⟨rfl, hb31⟩; have hB31 := hB30.trans (hb31.mono hB30.size))
    | (go_at_call 27; (with_reducible refine Calls.mono (op_ldw12 w31) ?_); rintro e w32 ⟨rfl, hb32⟩; have hB32 := hB31.trans (hb32.mono hB31.size))
    | (go_at_call 27; (with_reducible refine Calls.mono (op_nin w32) ?_); rintro e w33 ⟨rfl, hb33⟩; have hB33 := hB32.trans (hb33.mono hB32.size))
    | (go_at_call 27; (with_reducible refine Calls.mono (op_ntrap w33) ?_); rintro e w34 ⟨rfl, hb34⟩; have hB34 := hB33.trans (hb34.mono hB33.size))
    | fail)
  have hlt1 := hBg.lt
  have hsz := hB34.size
  have hins := tI_at w34
  have hC0 : CW w1 g (cells0 (.slice A0 0 c0)) w34 := (CW.start hBg).below hB34
  have hwant := tW_at (w34.alloc (.cells #[.int .i64 7, .int .i64 1, .int .i64 0, .int .i32 0, .int .i64 0, .int .i64 17, .int .i64 1, .int .i64 2, .int .i32 0, .int .i64 0, .int .i64 26, .int .i64 1, .int .i64 2, .int .i32 0, .int .i64 0, .int .i64 5, .int .i64 1, .int .i64 0, .int .i32 0, .int .i64 0, .int .i64 37, .int .i64 0, .int .i64 0, .int .i32 3, .int .i64 0, .int .i64 99, .int .i64 0, .int .i64 0, .int .i32 0, .int .i64 0] 25))
  have hins2 : ∀ k, k < 6 → InsAt w34.heap.size (k * 5) (tI k) ((w34.alloc (.cells #[.int .i64 7, .int .i64 1, .int .i64 0, .int .i32 0, .int .i64 0, .int .i64 17, .int .i64 1, .int .i64 2, .int .i32 0, .int .i64 0, .int .i64 26, .int .i64 1, .int .i64 2, .int .i32 0, .int .i64 0, .int .i64 5, .int .i64 1, .int .i64 0, .int .i32 0, .int .i64 0, .int .i64 37, .int .i64 0, .int .i64 0, .int .i32 3, .int .i64 0, .int .i64 99, .int .i64 0, .int .i64 0, .int .i32 0, .int .i64 0] 25)).alloc (.cells #[.int .i64 4, .int .i64 2, .int .i64 3, .int .i64 6, .int .i64 103, .int .i64 1] 3)) := fun k hk => (hins k hk).keep fun j => World.cell?_alloc_lt _ _ ⟨w34.heap.size, j, none⟩ (by simp)
  have hC1 := (hC0.alloc (.cells #[.int .i64 7, .int .i64 1, .int .i64 0, .int .i32 0, .int .i64 0, .int .i64 17, .int .i64 1, .int .i64 2, .int .i32 0, .int .i64 0, .int .i64 26, .int .i64 1, .int .i64 2, .int .i32 0, .int .i64 0, .int .i64 5, .int .i64 1, .int .i64 0, .int .i32 0, .int .i64 0, .int .i64 37, .int .i64 0, .int .i64 0, .int .i32 3, .int .i64 0, .int .i64 99, .int .i64 0, .int .i64 0, .int .i32 0, .int .i64 0] 25)).alloc (.cells #[.int .i64 4, .int .i64 2, .int .i64 3, .int .i64 6, .int .i64 103, .int .i64 1] 3)
  obtain ⟨bT, hbT⟩ : ∃ bT, bT = w34.heap.size := ⟨_, rfl⟩
  obtain ⟨WL, hWL⟩ : ∃ WL, WL = (w34.alloc (.cells #[.int .i64 7, .int .i64 1, .int .i64 0, .int .i32 0, .int .i64 0, .int .i64 17, .int .i64 1, .int .i64 2, .int .i32 0, .int .i64 0, .int .i64 26, .int .i64 1, .int .i64 2, .int .i32 0, .int .i64 0, .int .i64 5, .int .i64 1, .int .i64 0, .int .i32 0, .int .i64 0, .int .i64 37, .int .i64 0, .int .i64 0, .int .i32 3, .int .i64 0, .int .i64 99, .int .i64 0, .int .i64 0, .int .i32 0, .int .i64 0] 25)).alloc (.cells #[.int .i64 4, .int .i64 2, .int .i64 3, .int .i64 6, .int .i64 103, .int .i64 1] 3) := ⟨_, rfl⟩
  rw [World.size_alloc] at hwant
  have hszW : WL.heap.size = w34.heap.size + 1 + 1 := by rw [hWL]; simp
  simp only [← hWL] at hC1 hins2 hwant ⊢
  simp only [← hbT] at hins2 hwant hszW ⊢
  have hTlt : bT < WL.heap.size := by omega
  have hWlt : bT + 1 < WL.heap.size := by omega
  have hTg : bT ≠ g := by omega
  have hWg : bT + 1 ≠ g := by omega
  go_loopw [7] (fun i wr => ∃ k : Nat, i = .int .i64 k ∧ k ≤ 6 ∧ CW WL g (cells0 (.slice A0 0 c0)) wr) (fun i _ => 6 - (intOf i).toNat)
  case atStart => exact ⟨0, rfl, Nat.zero_le _, CW.start hC1.blk⟩
  case round =>
    obtain ⟨k, rfl, hk, hC⟩ := hrel
    by_cases hlt : k < 6
    · have hI : (k : Int) < 6 := by omega
      go_wp2_with fail
      have ht := traps_any A0 c0 k hlt
      have hi := (hins2 k hlt).keep (w' := wr) (fun j => cw_cell hC hTg hTlt j)
      have hw := (cw_cell hC hWg hWlt k).trans (hwant k hlt)
      rcases hik : tI k with ⟨i0, i1, i2, i3, i4⟩
      rw [hik] at ht hi
      refine wp_region_swap (ops' := numR14) (by kernel_rfl) (num_r14 g bT (bT + 1) k i0 i1 i2 i3 i4 (tW k) _ _ _ _ _ _ _ _ _ _ _ _ _ _ _ _ _ _ _ _ _ _ _ _ _ _ _ _ _ _ _ _ _ _ _ _ _ _ _ _ _ _ _ _ _ _ _ _ _ _ _ _ _ _ _ _ _ _ _ _ _ _ _ _ _ _ _ _ _ _ _ _ _ _ _ _ _ _ _ _ _ _ _ _ _ _ _ _ _ _ _ _ _ _ _ _ _ _ _ _ _ _ _ _ _ _ _ _ _ _ _ _ _ _ _ _ _ _ _ _ _ _ _ _ _ _ _ _ _ _ _ _ _ _ _ _ _ _ _ _ _ _ _ _ _ _ WL wr _ (cells0 (.slice A0 0 c0)) hlt hTg hWg (Nat.lt_of_lt_of_le hTlt hC.size) (Nat.lt_of_lt_of_le hWlt hC.size) hi hw hC (Lib.hid fun W hCW => ht W g (hCW.tab (hC1.tab hT1 htg) htg) htg hCW.blk) ?_)
      intro v109 v110 v111 v112 v113 v114 v115 v116 v117 v118 v119 w' hC' _ _
      go_wp2_with fail
      go_roundw
      case rel => exact ⟨k + 1, by go_num, by omega, hC'⟩
      case measure => simp [intOf]; omega
    · have hI : ¬ (k : Int) < 6 := by omega
      have hTr := hC.tab (hC1.tab hT1 htg) htg
      have hCr := CW.start hC.blk
      go_wp2_with (first
        | rw [hf0]
        | (go_at_call 27; (with_reducible refine Calls.mono (op_nhalt wr) ?_); rintro e x1 ⟨rfl, xb1⟩; have xC1 := hCr.below xb1)
        | (go_at_call 26; (with_reducible refine Calls.mono (o_halt 0 0 _ x1 g _ (xC1.tab hTr htg) htg xC1.blk) ?_); rintro e x2 ⟨rfl, xc2⟩; have xC2 := xC1.trans xc2)
        | (go_at_call 27; (with_reducible refine Calls.mono (op_nret x2) ?_); rintro e x3 ⟨rfl, xb3⟩; have xC3 := xC2.below xb3)
        | (go_at_call 26; (with_reducible refine Calls.mono (o_ret 0 0 _ x3 g _ (xC3.tab hTr htg) htg xC3.blk) ?_); rintro e x4 ⟨rfl, xc4⟩; have xC4 := xC3.trans xc4)
        | (go_at_call 27; (with_reducible refine Calls.mono (op_lis7_m1 x4) ?_); rintro e x5 ⟨rfl, xb5⟩; have xC5 := xC4.below xb5)
        | (go_at_call 26; (with_reducible refine Calls.mono (o_lis7_m1 0 0 _ x5 g _ (xC5.tab hTr htg) htg xC5.blk (cells0_rg _)) ?_); rintro e x6 ⟨rfl, xc6⟩; have xC6 := xC5.trans xc6)
        | (go_at_call 27; (with_reducible refine Calls.mono (op_njr x6) ?_); rintro e x7 ⟨rfl, xb7⟩; have xC7 := xC6.below xb7)
        | (go_at_call 26; (with_reducible refine Calls.mono (o_jr 0 0 _ x7 g _ (xC7.tab hTr htg) htg xC7.blk ((cells0_rg _).at32 7 (by omega) (-1))) ?_); rintro e x8 ⟨rfl, xc8⟩; have xC8 := xC7.trans xc8)
        | (go_at_call 30; (with_reducible refine Calls.mono (known18_any x8 (xC8.tab hTr htg)) ?_); rintro e x9 ⟨rfl, xb9⟩)
        | fail)
      go_ret
      have hgw : w.heap.size ≤ g := by omega
      exact ⟨by simp, hB1.trans ((hC1.bel hgw).trans ((hC.bel hgw).trans ((xC8.bel hgw).trans (xb9.mono (by have := xC8.size; have := hC.size; have := hC1.size; have := hB1.size; omega)))))⟩
end Go.Proofs.YthcjnkakfpmpbaaDoor.cpuNumbers
