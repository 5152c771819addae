/- The walk of the reference's Decode: what bytes decode to. Conditions: no more bytes than the form reaches. -/
import Derived.Test.YthcjnkakfpmpbaaDoorD15
import Derived.Test.YthcjnkakfpmpbaaDoorD16
import Derived.Test.YthcjnkakfpmpbaaDoorD17
namespace Go.Proofs.YthcjnkakfpmpbaaDoor
open Go.RowKit
set_option linter.unusedVariables false
set_option linter.unusedSimpArgs false

set_option maxRecDepth 20000 in
set_option maxHeartbeats 1000000 in
theorem rdec_arg (A : Option Addr) (n c : Nat) (at_ : Int) (w : World) (h : at_ < 0 ∨ (n : Int) < at_) : Calls Tryd.prog 17 #[.slice A n c, .int .i64 at_] w (GivesD w (ZI, 0, 1)) := by
  by_cases h2 : at_ < 0
  · clear h
    go_enter Tryd.func17, Tryd.ntmps17
    go_wp2_with ((with_reducible show wpList _ _ _ (Oper.mk none (Op.store _ (Operand.tmp 4) (Operand.tmp 21)) _ _ _ _ :: _) _ _); refine wpList_storeQ ((Below.refl _ _).alloc (Nat.le_refl _) _) (Blk.new w _ _) rfl 25 (.tmp 4) (.tmp 21) (.int .i64 0) (.int .i64 0) (.int .i64 0) (.int .i32 0) (.int .i64 0) rfl (by kernel_rfl) (by kernel_rfl) (by simp [Value.oneCell']) (by kernel_rfl) ?_; intro w8 hB8 hz8; obtain ⟨z0, z1, z2, z3, z4⟩ := hz8)
    refine bodyPost_ret (v := .tuple #[ZI.val, .int .i64 0, .int .i64 1]) (by simp [results, Tryd.results17, go_sem, z0, z1, z2, z3, z4, ZI, Ins.val]) rfl ⟨rfl, hB8⟩
  · have h3 : (n : Int) < at_ := by omega
    have g0 : (at_ < 0) = False := by simp; omega
    clear h
    go_enter Tryd.func17, Tryd.ntmps17
    go_wp2_with ((with_reducible show wpList _ _ _ (Oper.mk none (Op.store _ (Operand.tmp 4) (Operand.tmp 21)) _ _ _ _ :: _) _ _); refine wpList_storeQ ((Below.refl _ _).alloc (Nat.le_refl _) _) (Blk.new w _ _) rfl 25 (.tmp 4) (.tmp 21) (.int .i64 0) (.int .i64 0) (.int .i64 0) (.int .i32 0) (.int .i64 0) rfl (by kernel_rfl) (by kernel_rfl) (by simp [Value.oneCell']) (by kernel_rfl) ?_; intro w8 hB8 hz8; obtain ⟨z0, z1, z2, z3, z4⟩ := hz8)
    refine bodyPost_ret (v := .tuple #[ZI.val, .int .i64 0, .int .i64 1]) (by simp [results, Tryd.results17, go_sem, z0, z1, z2, z3, z4, ZI, Ins.val]) rfl ⟨rfl, hB8⟩
set_option maxRecDepth 20000 in
set_option maxHeartbeats 1000000 in
theorem rdec_end (A : Option Addr) (n c : Nat) (w : World) : Calls Tryd.prog 17 #[.slice A n c, .int .i64 n] w (GivesD w (ZI, 0, 10)) := by
  have g0 : ((n : Int) < 0) = False := by simp
  have g1 : ((n : Int) < n) = False := by simp
  go_enter Tryd.func17, Tryd.ntmps17
  go_wp2_with ((with_reducible show wpList _ _ _ (Oper.mk none (Op.store _ (Operand.tmp 4) (Operand.tmp 26)) _ _ _ _ :: _) _ _); refine wpList_storeQ ((Below.refl _ _).alloc (Nat.le_refl _) _) (Blk.new w _ _) rfl 25 (.tmp 4) (.tmp 26) (.int .i64 0) (.int .i64 0) (.int .i64 0) (.int .i32 0) (.int .i64 0) rfl (by kernel_rfl) (by kernel_rfl) (by simp [Value.oneCell']) (by kernel_rfl) ?_; intro w8 hB8 hz8; obtain ⟨z0, z1, z2, z3, z4⟩ := hz8)
  refine bodyPost_ret (v := .tuple #[ZI.val, .int .i64 0, .int .i64 10]) (by simp [results, Tryd.results17, go_sem, z0, z1, z2, z3, z4, ZI, Ins.val]) rfl ⟨rfl, hB8⟩
set_option maxRecDepth 20000 in
set_option maxHeartbeats 1000000 in
theorem rdec_none (b o n c : Nat) (at_ x f : Int) (w : World) (h0 : 0 ≤ at_) (h1 : at_ < n) (hb : b < w.heap.size) (hx : w.cell? ⟨b, o + at_.toNat, none⟩ = some (.int .u8 x))
    (Hfi : Hid (∀ w, Calls Tryd.prog 47 #[.int .u8 x] w fun e w' => e = .returned (.tuple #[.int .i64 0, .int .i64 f]) ∧ Below w.heap.size w w')) :
    Calls Tryd.prog 17 #[.slice (some ⟨b, o, none⟩) n c, .int .i64 at_] w (GivesD w (ZI, 0, 11)) := by
  have g0 : (at_ < 0) = False := by simp; omega
  have g1 : ((n : Int) < at_) = False := by simp; omega
  have g2 : (at_ = (n : Int)) = False := by simp; omega
  have g3 : (at_ == (n : Int)) = false := by simp; omega
  have hbb : ∀ k, (w.alloc (.cells #[.int .i64 0, .int .i64 0, .int .i64 0, .int .i32 0, .int .i64 0] 25)).cell? ⟨b, k, none⟩ = w.cell? ⟨b, k, none⟩ := fun k => World.cell?_alloc_lt _ _ _ hb
  go_enter Tryd.func17, Tryd.ntmps17
  go_wp2_with (first
    | (go_at_call 47; refine (Hfi.out _).mono ?_; rintro e w2 ⟨rfl, hb2⟩; have hR2 := (Blk.new w 25 [.int .i64 0, .int .i64 0, .int .i64 0, .int .i32 0, .int .i64 0]).below hb2 (by simp); have hB2 : Below w.heap.size w w2 := ((Below.refl _ _).alloc (Nat.le_refl _) _).trans (hb2.mono (by simp)))
    | ((with_reducible show wpList _ _ _ (Oper.mk none (Op.store _ (Operand.tmp 4) (Operand.tmp 37)) _ _ _ _ :: _) _ _); refine wpList_storeQ hB2 hR2 rfl 25 (.tmp 4) (.tmp 37) (.int .i64 0) (.int .i64 0) (.int .i64 0) (.int .i32 0) (.int .i64 0) rfl (by kernel_rfl) (by kernel_rfl) (by simp [Value.oneCell']) (by kernel_rfl) ?_; intro w8 hB8 hz8; obtain ⟨z0, z1, z2, z3, z4⟩ := hz8))
  refine bodyPost_ret (v := .tuple #[ZI.val, .int .i64 0, .int .i64 11]) (by simp [results, Tryd.results17, go_sem, z0, z1, z2, z3, z4, ZI, Ins.val]) rfl ⟨rfl, hB8⟩

/-- a number in a part of the bytes -/
theorem getR_part (l : List UInt8) (F J W sz : Nat) (hW : W = 1 ∨ W = 2 ∨ W = 4) (hJ : J + 1 + W ≤ sz) (hs : F + sz ≤ l.length) : getR ((l.drop F).take sz) ((J + 1 : Nat) : Int) W = getR (l.drop (F + 1)) J W := by
  have hlg : legalB (W : Int) = true := by rcases hW with rfl | rfl | rfl <;> rfl
  rw [getR_ok hlg (by omega) (by rw [List.length_take, List.length_drop]; omega) (by rw [List.length_take, List.length_drop]; omega), getR_ok hlg (by omega) (by rw [List.length_drop]; omega) (by rw [List.length_drop]; omega)]
  simp only [Int.toNat_natCast]
  rw [List.drop_take, List.take_take, List.drop_drop, List.drop_drop, Nat.min_eq_left (by omega), show F + (J + 1) = F + 1 + J by omega]
theorem num_rest {w : World} {b o n F sz c : Nat} {l : List UInt8} (hs : Sl w w.heap.size 1 (some ⟨b, o, none⟩) n (bs l)) (hb : b < w.heap.size) (hsz : F + sz ≤ n) (hn : (n : Int) ≤ 140737488351232) (J W : Nat) (hW : W = 1 ∨ W = 2 ∨ W = 4) (hJ : J + 1 + W ≤ sz) (w' : World)
    (hc : ∀ k, w'.cell? ⟨b, k, none⟩ = w.cell? ⟨b, k, none⟩) (hb' : b < w'.heap.size) :
    Calls Tryd.prog 50 #[.slice (some ⟨b, o + F, none⟩) sz (c - F), .int .i64 ((J + 1 : Nat) : Int), .int .i64 W] w' fun e w'' => e = .returned (.int .i32 (sgn (getR (l.drop (F + 1)) J W).1 W)) ∧ w' = w'' := by
  have hl : l.length = n := by have := hs.len; rw [bs_length] at this; omega
  have h1 := hs.mid (i := F) (m := sz) (by omega) hb
  have h2 : Sl w' w'.heap.size 1 (some ⟨b, o + F, none⟩) sz (bs ((l.drop F).take sz)) := by
    refine ⟨h1.len, fun hm0 => ?_⟩
    obtain ⟨b1, o1, e, _, hh⟩ := h1.at_ hm0
    injection e with e
    injection e with e1 e2
    subst e1; subst e2
    exact ⟨b, _, rfl, hb', hh.keep hc⟩
  have h3 := ref7number (some ⟨b, o + F, none⟩) sz (c - F) _ ((J + 1 : Nat) : Int) W w' h2 (by unfold maxLen; omega)
  rw [getR_part l F J W sz hW hJ (by omega)] at h3
  exact h3
theorem told_one (r : List UInt8) (h : 1 ≤ r.length) : toldR r 0 1 9 = rb r 0 := by
  have hg := getR_ok (l := r) (at_ := 0) (width := 1) rfl (by omega) (by omega) (by omega)
  unfold toldR
  rw [hg]
  cases r with
  | nil => simp at h
  | cons y t => simp [leVal, rb]
theorem told_two (r : List UInt8) (h : 3 ≤ r.length) : toldR r 1 2 11 = rb r 1 + 256 * rb r 2 := by
  have hg := getR_ok (l := r) (at_ := 1) (width := 2) rfl (by omega) (by omega) (by omega)
  unfold toldR
  rw [hg]
  match r, h with
  | x :: y :: z :: t, _ => simp [leVal, rb]

set_option maxHeartbeats 1000000 in
theorem refDecode_any (A : Option Addr) (n c : Nat) (l : List UInt8) (at_ : Int) (w : World) (hs : Sl w w.heap.size 1 A n (bs l)) (hnc : n ≤ c) (hn : (n : Int) ≤ 140737488351232) :
    Calls Tryd.prog 17 #[.slice A n c, .int .i64 at_] w (GivesD w (decR l at_)) := by
  have hl : l.length = n := by have := hs.len; rw [bs_length] at this; omega
  unfold decR
  rw [hl]
  by_cases h1 : at_ < 0 ∨ (n : Int) < at_
  · rw [if_pos h1]
    exact rdec_arg A n c at_ w h1
  rw [if_neg h1]
  by_cases h2 : at_ = n
  · rw [if_pos h2]
    subst h2
    exact rdec_end A n c w
  rw [if_neg h2]
  rw [not_or] at h1
  have h0 : 0 ≤ at_ := by omega
  have h1' : at_ < n := by omega
  obtain ⟨b, o, rfl, hb, _⟩ := hs.at_ (by omega)
  have hx := sl_rb hs at_.toNat (by omega)
  have hxb := rb_bounds l at_.toNat
  obtain ⟨x, hxx⟩ : ∃ x, x = rb l at_.toNat := ⟨_, rfl⟩
  rw [← hxx] at hx hxb ⊢
  have hfi := fun w => ref7find x w hxb.1 hxb.2
  have hforms : (byteD x).1 ≠ 0 → (byteD x).2 ∈ formsOf (opShape (byteD x).1) := by
    obtain ⟨k, rfl⟩ := Int.eq_ofNat_of_zero_le hxb.1
    exact byteD_forms k (by omega)
  have hbd : 0 ≤ (byteD x).1 ∧ (byteD x).1 ≤ 43 := by
    obtain ⟨k, rfl⟩ := Int.eq_ofNat_of_zero_le hxb.1
    have := byteD_bounds k (by omega)
    exact ⟨this.1, this.2.1⟩
  simp only
  generalize (byteD x).2 = f at *
  generalize (byteD x).1 = op at *
  by_cases hop : op = 0
  · rw [if_pos hop]
    subst hop
    exact rdec_none b o n c at_ x f w h0 h1' hb hx (Lib.hid hfi)
  rw [if_neg hop]
  have hop1 : (op == 0) = false := by simpa using hop
  have hisop : isOp op = true := by simp [isOp]; omega
  have hff := hforms hop
  have hs13 := (shape_bounds op).1 hisop
  have hsz := fun (h : 0 ≤ f ∧ f ≤ 4) w => refSize_any op f w hisop h
  have hsh := fun w => refShape_any op w
  clear hforms hbd
  obtain ⟨F, hF⟩ : ∃ F, at_.toNat = F := ⟨_, rfl⟩
  rw [hF] at hx
  rw [show (at_ + 1).toNat = F + 1 by omega]
  have hr0 : 2 ≤ (n : Int) - at_ → w.cell? ⟨b, o + F + 1, none⟩ = some (.int .u8 (rb (l.drop (F + 1)) 0)) := fun h => by rw [rb_drop, Nat.add_assoc]; exact sl_rb hs (F + 1) (by omega)
  have hr1 : 3 ≤ (n : Int) - at_ → w.cell? ⟨b, o + F + 2, none⟩ = some (.int .u8 (rb (l.drop (F + 1)) 1)) := fun h => by rw [rb_drop, Nat.add_assoc]; exact sl_rb hs (F + 2) (by omega)
  have hr2 : 4 ≤ (n : Int) - at_ → w.cell? ⟨b, o + F + 3, none⟩ = some (.int .u8 (rb (l.drop (F + 1)) 2)) := fun h => by rw [rb_drop, Nat.add_assoc]; exact sl_rb hs (F + 3) (by omega)
  have hto := fun (sz J W : Nat) (h : F + sz ≤ n) hW hJ w' hc hb' => num_rest (c := c) hs hb h hn J W hW hJ w' hc hb'
  have hN := fun (op a b n f : Int) (h : -2147483648 ≤ n ∧ n ≤ 2147483647) w => refCheck_any op a b n f w h
  have hrl : ((l.drop (F + 1)).length : Int) = (n : Int) - at_ - 1 := by rw [List.length_drop]; omega
  generalize l.drop (F + 1) = r at *
  have hb0 := rb_bounds r 0
  have hb1 := rb_bounds r 1
  have hb2 := rb_bounds r 2
  obtain ⟨s, hse⟩ : ∃ s, s = opShape op := ⟨_, rfl⟩
  rw [← hse] at hff hs13 hsh hsz ⊢
  clear hse
  rcases thirteen hs13 with rfl | rfl | rfl | rfl | rfl | rfl | rfl | rfl | rfl | rfl | rfl | rfl | rfl <;> simp [formsOf] at hff
  · subst hff
    have hz := hsz (by omega)
    rw [show sizeR 1 0 = 1 from by decide] at hz ⊢
    by_cases hlt : (n : Int) - at_ < 1
    · rw [if_pos hlt]
      exact rdec_1_0_short b o n c F at_ x op w hop1 h0 h1' hF hn hnc hb hlt hx (Lib.hid hfi) (Lib.hid hz)
    · rw [if_neg hlt]
      have hI : insD op 0 1 r = ⟨op, 0, 0, 0, 0⟩ := by simp [insD, widthD]
      rw [hI]
      simp only
      have hch := hN op 0 0 0 0 (by omega)
      by_cases hC : checkR op 0 0 0 0 = 0
      · rw [if_pos hC]
        rw [hC] at hch
        exact rdec_1_0_ok b o n c F at_ x op w hop1 h0 h1' hF hn hnc hb (by omega) hx  (Lib.hid hch) (Lib.hid hsh) (Lib.hid hfi) (Lib.hid hz)
      · rw [if_neg hC]
        exact rdec_1_0_bad b o n c F at_ x op w hop1 h0 h1' hF hn hnc hb (by omega) hx  _ (by simpa using hC) (Lib.hid hch) (Lib.hid hsh) (Lib.hid hfi) (Lib.hid hz)
  · subst hff
    have hz := hsz (by omega)
    rw [show sizeR 2 0 = 2 from by decide] at hz ⊢
    by_cases hlt : (n : Int) - at_ < 2
    · rw [if_pos hlt]
      exact rdec_2_0_short b o n c F at_ x op w hop1 h0 h1' hF hn hnc hb hlt hx (Lib.hid hfi) (Lib.hid hz)
    · rw [if_neg hlt]
      have hI : insD op 0 2 r = ⟨op, (rb r 0), 0, 0, 0⟩ := by simp [insD, widthD]
      rw [hI]
      simp only
      have hch := hN op (rb r 0) 0 0 0 (by omega)
      by_cases hC : checkR op (rb r 0) 0 0 0 = 0
      · rw [if_pos hC]
        rw [hC] at hch
        exact rdec_2_0_ok b o n c F at_ x op w hop1 h0 h1' hF hn hnc hb (by omega) hx (rb r 0) hb0 (hr0 (by omega)) (Lib.hid hch) (Lib.hid hsh) (Lib.hid hfi) (Lib.hid hz)
      · rw [if_neg hC]
        exact rdec_2_0_bad b o n c F at_ x op w hop1 h0 h1' hF hn hnc hb (by omega) hx (rb r 0) hb0 (hr0 (by omega)) _ (by simpa using hC) (Lib.hid hch) (Lib.hid hsh) (Lib.hid hfi) (Lib.hid hz)
  · subst hff
    have hz := hsz (by omega)
    rw [show sizeR 3 0 = 2 from by decide] at hz ⊢
    by_cases hlt : (n : Int) - at_ < 2
    · rw [if_pos hlt]
      exact rdec_3_0_short b o n c F at_ x op w hop1 h0 h1' hF hn hnc hb hlt hx (Lib.hid hfi) (Lib.hid hz)
    · rw [if_neg hlt]
      have hI : insD op 0 3 r = ⟨op, (rb r 0), 0, 0, 0⟩ := by simp [insD, widthD]
      rw [hI]
      simp only
      have hch := hN op (rb r 0) 0 0 0 (by omega)
      by_cases hC : checkR op (rb r 0) 0 0 0 = 0
      · rw [if_pos hC]
        rw [hC] at hch
        exact rdec_3_0_ok b o n c F at_ x op w hop1 h0 h1' hF hn hnc hb (by omega) hx (rb r 0) hb0 (hr0 (by omega)) (Lib.hid hch) (Lib.hid hsh) (Lib.hid hfi) (Lib.hid hz)
      · rw [if_neg hC]
        exact rdec_3_0_bad b o n c F at_ x op w hop1 h0 h1' hF hn hnc hb (by omega) hx (rb r 0) hb0 (hr0 (by omega)) _ (by simpa using hC) (Lib.hid hch) (Lib.hid hsh) (Lib.hid hfi) (Lib.hid hz)
  · subst hff
    have hz := hsz (by omega)
    rw [show sizeR 4 0 = 2 from by decide] at hz ⊢
    by_cases hlt : (n : Int) - at_ < 2
    · rw [if_pos hlt]
      exact rdec_4_0_short b o n c F at_ x op w hop1 h0 h1' hF hn hnc hb hlt hx (Lib.hid hfi) (Lib.hid hz)
    · rw [if_neg hlt]
      have hI : insD op 0 4 r = ⟨op, (rb r 0 / 16), (rb r 0 % 16), 0, 0⟩ := by simp [insD, widthD]
      rw [hI]
      simp only
      have hch := hN op (rb r 0 / 16) (rb r 0 % 16) 0 0 (by omega)
      by_cases hC : checkR op (rb r 0 / 16) (rb r 0 % 16) 0 0 = 0
      · rw [if_pos hC]
        rw [hC] at hch
        exact rdec_4_0_ok b o n c F at_ x op w hop1 h0 h1' hF hn hnc hb (by omega) hx (rb r 0) hb0 (hr0 (by omega)) (Lib.hid hch) (Lib.hid hsh) (Lib.hid hfi) (Lib.hid hz)
      · rw [if_neg hC]
        exact rdec_4_0_bad b o n c F at_ x op w hop1 h0 h1' hF hn hnc hb (by omega) hx (rb r 0) hb0 (hr0 (by omega)) _ (by simpa using hC) (Lib.hid hch) (Lib.hid hsh) (Lib.hid hfi) (Lib.hid hz)
  · subst hff
    have hz := hsz (by omega)
    rw [show sizeR 5 0 = 2 from by decide] at hz ⊢
    by_cases hlt : (n : Int) - at_ < 2
    · rw [if_pos hlt]
      exact rdec_5_0_short b o n c F at_ x op w hop1 h0 h1' hF hn hnc hb hlt hx (Lib.hid hfi) (Lib.hid hz)
    · rw [if_neg hlt]
      have hI : insD op 0 5 r = ⟨op, (rb r 0 / 16), (rb r 0 % 16), 0, 0⟩ := by simp [insD, widthD]
      rw [hI]
      simp only
      have hch := hN op (rb r 0 / 16) (rb r 0 % 16) 0 0 (by omega)
      by_cases hC : checkR op (rb r 0 / 16) (rb r 0 % 16) 0 0 = 0
      · rw [if_pos hC]
        rw [hC] at hch
        exact rdec_5_0_ok b o n c F at_ x op w hop1 h0 h1' hF hn hnc hb (by omega) hx (rb r 0) hb0 (hr0 (by omega)) (Lib.hid hch) (Lib.hid hsh) (Lib.hid hfi) (Lib.hid hz)
      · rw [if_neg hC]
        exact rdec_5_0_bad b o n c F at_ x op w hop1 h0 h1' hF hn hnc hb (by omega) hx (rb r 0) hb0 (hr0 (by omega)) _ (by simpa using hC) (Lib.hid hch) (Lib.hid hsh) (Lib.hid hfi) (Lib.hid hz)
  · subst hff
    have hz := hsz (by omega)
    rw [show sizeR 6 0 = 2 from by decide] at hz ⊢
    by_cases hlt : (n : Int) - at_ < 2
    · rw [if_pos hlt]
      exact rdec_6_0_short b o n c F at_ x op w hop1 h0 h1' hF hn hnc hb hlt hx (Lib.hid hfi) (Lib.hid hz)
    · rw [if_neg hlt]
      have hI : insD op 0 6 r = ⟨op, (rb r 0 / 16), (rb r 0 % 16), 0, 0⟩ := by simp [insD, widthD]
      rw [hI]
      simp only
      have hch := hN op (rb r 0 / 16) (rb r 0 % 16) 0 0 (by omega)
      by_cases hC : checkR op (rb r 0 / 16) (rb r 0 % 16) 0 0 = 0
      · rw [if_pos hC]
        rw [hC] at hch
        exact rdec_6_0_ok b o n c F at_ x op w hop1 h0 h1' hF hn hnc hb (by omega) hx (rb r 0) hb0 (hr0 (by omega)) (Lib.hid hch) (Lib.hid hsh) (Lib.hid hfi) (Lib.hid hz)
      · rw [if_neg hC]
        exact rdec_6_0_bad b o n c F at_ x op w hop1 h0 h1' hF hn hnc hb (by omega) hx (rb r 0) hb0 (hr0 (by omega)) _ (by simpa using hC) (Lib.hid hch) (Lib.hid hsh) (Lib.hid hfi) (Lib.hid hz)
  · subst hff
    have hz := hsz (by omega)
    rw [show sizeR 7 0 = 3 from by decide] at hz ⊢
    by_cases hlt : (n : Int) - at_ < 3
    · rw [if_pos hlt]
      exact rdec_7_0_short b o n c F at_ x op w hop1 h0 h1' hF hn hnc hb hlt hx (Lib.hid hfi) (Lib.hid hz)
    · rw [if_neg hlt]
      have hI : insD op 0 7 r = ⟨op, (rb r 0), (rb r 1 / 16), (rb r 1 % 16), 0⟩ := by simp [insD, widthD]
      rw [hI]
      simp only
      have hch := hN op (rb r 0) (rb r 1 / 16) (rb r 1 % 16) 0 (by omega)
      by_cases hC : checkR op (rb r 0) (rb r 1 / 16) (rb r 1 % 16) 0 = 0
      · rw [if_pos hC]
        rw [hC] at hch
        exact rdec_7_0_ok b o n c F at_ x op w hop1 h0 h1' hF hn hnc hb (by omega) hx (rb r 0) hb0 (hr0 (by omega)) (rb r 1) hb1 (hr1 (by omega)) (Lib.hid hch) (Lib.hid hsh) (Lib.hid hfi) (Lib.hid hz)
      · rw [if_neg hC]
        exact rdec_7_0_bad b o n c F at_ x op w hop1 h0 h1' hF hn hnc hb (by omega) hx (rb r 0) hb0 (hr0 (by omega)) (rb r 1) hb1 (hr1 (by omega)) _ (by simpa using hC) (Lib.hid hch) (Lib.hid hsh) (Lib.hid hfi) (Lib.hid hz)
  · subst hff
    have hz := hsz (by omega)
    rw [show sizeR 8 0 = 3 from by decide] at hz ⊢
    by_cases hlt : (n : Int) - at_ < 3
    · rw [if_pos hlt]
      exact rdec_8_0_short b o n c F at_ x op w hop1 h0 h1' hF hn hnc hb hlt hx (Lib.hid hfi) (Lib.hid hz)
    · rw [if_neg hlt]
      have hI : insD op 0 8 r = ⟨op, (rb r 0), 0, (toldR r 1 1 8), 0⟩ := by simp [insD, widthD]
      rw [hI]
      simp only
      have hch := hN op (rb r 0) 0 (toldR r 1 1 8) 0 (toldR_bounds r 1 1 8 (by omega))
      by_cases hC : checkR op (rb r 0) 0 (toldR r 1 1 8) 0 = 0
      · rw [if_pos hC]
        rw [hC] at hch
        exact rdec_8_0_ok b o n c F at_ x op w hop1 h0 h1' hF hn hnc hb (by omega) hx (rb r 0) hb0 (hr0 (by omega)) (toldR r 1 1 8) (Lib.hid fun w' hc hb' => by have t := hto 3 1 1 (by omega) (by decide) (by decide) w' hc hb'; simpa [toldR] using t) (Lib.hid hch) (Lib.hid hsh) (Lib.hid hfi) (Lib.hid hz)
      · rw [if_neg hC]
        exact rdec_8_0_bad b o n c F at_ x op w hop1 h0 h1' hF hn hnc hb (by omega) hx (rb r 0) hb0 (hr0 (by omega)) (toldR r 1 1 8) (Lib.hid fun w' hc hb' => by have t := hto 3 1 1 (by omega) (by decide) (by decide) w' hc hb'; simpa [toldR] using t) _ (by simpa using hC) (Lib.hid hch) (Lib.hid hsh) (Lib.hid hfi) (Lib.hid hz)
  · subst hff
    have hz := hsz (by omega)
    rw [show sizeR 9 0 = 2 from by decide] at hz ⊢
    by_cases hlt : (n : Int) - at_ < 2
    · rw [if_pos hlt]
      exact rdec_9_0_short b o n c F at_ x op w hop1 h0 h1' hF hn hnc hb hlt hx (Lib.hid hfi) (Lib.hid hz)
    · rw [if_neg hlt]
      have hI : insD op 0 9 r = ⟨op, 0, 0, (rb r 0), 0⟩ := by have t := told_one r (by omega); simp [insD, widthD, t]
      rw [hI]
      simp only
      have hch := hN op 0 0 (rb r 0) 0 (by omega)
      by_cases hC : checkR op 0 0 (rb r 0) 0 = 0
      · rw [if_pos hC]
        rw [hC] at hch
        exact rdec_9_0_ok b o n c F at_ x op w hop1 h0 h1' hF hn hnc hb (by omega) hx (rb r 0) hb0 (hr0 (by omega)) (Lib.hid hch) (Lib.hid hsh) (Lib.hid hfi) (Lib.hid hz)
      · rw [if_neg hC]
        exact rdec_9_0_bad b o n c F at_ x op w hop1 h0 h1' hF hn hnc hb (by omega) hx (rb r 0) hb0 (hr0 (by omega)) _ (by simpa using hC) (Lib.hid hch) (Lib.hid hsh) (Lib.hid hfi) (Lib.hid hz)
  · subst hff
    have hz := hsz (by omega)
    rw [show sizeR 10 0 = 6 from by decide] at hz ⊢
    by_cases hlt : (n : Int) - at_ < 6
    · rw [if_pos hlt]
      exact rdec_10_0_short b o n c F at_ x op w hop1 h0 h1' hF hn hnc hb hlt hx (Lib.hid hfi) (Lib.hid hz)
    · rw [if_neg hlt]
      have hI : insD op 0 10 r = ⟨op, (rb r 0), 0, (toldR r 1 4 10), 0⟩ := by simp [insD, widthD]
      rw [hI]
      simp only
      have hch := hN op (rb r 0) 0 (toldR r 1 4 10) 0 (toldR_bounds r 1 4 10 (by omega))
      by_cases hC : checkR op (rb r 0) 0 (toldR r 1 4 10) 0 = 0
      · rw [if_pos hC]
        rw [hC] at hch
        exact rdec_10_0_ok b o n c F at_ x op w hop1 h0 h1' hF hn hnc hb (by omega) hx (rb r 0) hb0 (hr0 (by omega)) (toldR r 1 4 10) (Lib.hid fun w' hc hb' => by have t := hto 6 1 4 (by omega) (by decide) (by decide) w' hc hb'; simpa [toldR] using t) (Lib.hid hch) (Lib.hid hsh) (Lib.hid hfi) (Lib.hid hz)
      · rw [if_neg hC]
        exact rdec_10_0_bad b o n c F at_ x op w hop1 h0 h1' hF hn hnc hb (by omega) hx (rb r 0) hb0 (hr0 (by omega)) (toldR r 1 4 10) (Lib.hid fun w' hc hb' => by have t := hto 6 1 4 (by omega) (by decide) (by decide) w' hc hb'; simpa [toldR] using t) _ (by simpa using hC) (Lib.hid hch) (Lib.hid hsh) (Lib.hid hfi) (Lib.hid hz)
  · subst hff
    have hz := hsz (by omega)
    rw [show sizeR 11 0 = 4 from by decide] at hz ⊢
    by_cases hlt : (n : Int) - at_ < 4
    · rw [if_pos hlt]
      exact rdec_11_0_short b o n c F at_ x op w hop1 h0 h1' hF hn hnc hb hlt hx (Lib.hid hfi) (Lib.hid hz)
    · rw [if_neg hlt]
      have hI : insD op 0 11 r = ⟨op, (rb r 0), 0, (rb r 1 + 256 * rb r 2), 0⟩ := by have t := told_two r (by omega); simp [insD, widthD, t]
      rw [hI]
      simp only
      have hch := hN op (rb r 0) 0 (rb r 1 + 256 * rb r 2) 0 (by omega)
      by_cases hC : checkR op (rb r 0) 0 (rb r 1 + 256 * rb r 2) 0 = 0
      · rw [if_pos hC]
        rw [hC] at hch
        exact rdec_11_0_ok b o n c F at_ x op w hop1 h0 h1' hF hn hnc hb (by omega) hx (rb r 0) hb0 (hr0 (by omega)) (rb r 1) hb1 (hr1 (by omega)) (rb r 2) hb2 (hr2 (by omega)) (Lib.hid hch) (Lib.hid hsh) (Lib.hid hfi) (Lib.hid hz)
      · rw [if_neg hC]
        exact rdec_11_0_bad b o n c F at_ x op w hop1 h0 h1' hF hn hnc hb (by omega) hx (rb r 0) hb0 (hr0 (by omega)) (rb r 1) hb1 (hr1 (by omega)) (rb r 2) hb2 (hr2 (by omega)) _ (by simpa using hC) (Lib.hid hch) (Lib.hid hsh) (Lib.hid hfi) (Lib.hid hz)
  · rcases hff with rfl | rfl | rfl
    · have hz := hsz (by omega)
      rw [show sizeR 12 1 = 2 from by decide] at hz ⊢
      by_cases hlt : (n : Int) - at_ < 2
      · rw [if_pos hlt]
        exact rdec_12_1_short b o n c F at_ x op w hop1 h0 h1' hF hn hnc hb hlt hx (Lib.hid hfi) (Lib.hid hz)
      · rw [if_neg hlt]
        have hI : insD op 1 12 r = ⟨op, 0, 0, (toldR r 0 1 12), 1⟩ := by simp [insD, widthD]
        rw [hI]
        simp only
        have hch := hN op 0 0 (toldR r 0 1 12) 1 (toldR_bounds r 0 1 12 (by omega))
        by_cases hC : checkR op 0 0 (toldR r 0 1 12) 1 = 0
        · rw [if_pos hC]
          rw [hC] at hch
          exact rdec_12_1_ok b o n c F at_ x op w hop1 h0 h1' hF hn hnc hb (by omega) hx (toldR r 0 1 12) (Lib.hid fun w' hc hb' => by have t := hto 2 0 1 (by omega) (by decide) (by decide) w' hc hb'; simpa [toldR] using t) (Lib.hid hch) (Lib.hid hsh) (Lib.hid hfi) (Lib.hid hz)
        · rw [if_neg hC]
          exact rdec_12_1_bad b o n c F at_ x op w hop1 h0 h1' hF hn hnc hb (by omega) hx (toldR r 0 1 12) (Lib.hid fun w' hc hb' => by have t := hto 2 0 1 (by omega) (by decide) (by decide) w' hc hb'; simpa [toldR] using t) _ (by simpa using hC) (Lib.hid hch) (Lib.hid hsh) (Lib.hid hfi) (Lib.hid hz)
    · have hz := hsz (by omega)
      rw [show sizeR 12 2 = 3 from by decide] at hz ⊢
      by_cases hlt : (n : Int) - at_ < 3
      · rw [if_pos hlt]
        exact rdec_12_2_short b o n c F at_ x op w hop1 h0 h1' hF hn hnc hb hlt hx (Lib.hid hfi) (Lib.hid hz)
      · rw [if_neg hlt]
        have hI : insD op 2 12 r = ⟨op, 0, 0, (toldR r 0 2 12), 2⟩ := by simp [insD, widthD]
        rw [hI]
        simp only
        have hch := hN op 0 0 (toldR r 0 2 12) 2 (toldR_bounds r 0 2 12 (by omega))
        by_cases hC : checkR op 0 0 (toldR r 0 2 12) 2 = 0
        · rw [if_pos hC]
          rw [hC] at hch
          exact rdec_12_2_ok b o n c F at_ x op w hop1 h0 h1' hF hn hnc hb (by omega) hx (toldR r 0 2 12) (Lib.hid fun w' hc hb' => by have t := hto 3 0 2 (by omega) (by decide) (by decide) w' hc hb'; simpa [toldR] using t) (Lib.hid hch) (Lib.hid hsh) (Lib.hid hfi) (Lib.hid hz)
        · rw [if_neg hC]
          exact rdec_12_2_bad b o n c F at_ x op w hop1 h0 h1' hF hn hnc hb (by omega) hx (toldR r 0 2 12) (Lib.hid fun w' hc hb' => by have t := hto 3 0 2 (by omega) (by decide) (by decide) w' hc hb'; simpa [toldR] using t) _ (by simpa using hC) (Lib.hid hch) (Lib.hid hsh) (Lib.hid hfi) (Lib.hid hz)
    · have hz := hsz (by omega)
      rw [show sizeR 12 4 = 5 from by decide] at hz ⊢
      by_cases hlt : (n : Int) - at_ < 5
      · rw [if_pos hlt]
        exact rdec_12_4_short b o n c F at_ x op w hop1 h0 h1' hF hn hnc hb hlt hx (Lib.hid hfi) (Lib.hid hz)
      · rw [if_neg hlt]
        have hI : insD op 4 12 r = ⟨op, 0, 0, (toldR r 0 4 12), 4⟩ := by simp [insD, widthD]
        rw [hI]
        simp only
        have hch := hN op 0 0 (toldR r 0 4 12) 4 (toldR_bounds r 0 4 12 (by omega))
        by_cases hC : checkR op 0 0 (toldR r 0 4 12) 4 = 0
        · rw [if_pos hC]
          rw [hC] at hch
          exact rdec_12_4_ok b o n c F at_ x op w hop1 h0 h1' hF hn hnc hb (by omega) hx (toldR r 0 4 12) (Lib.hid fun w' hc hb' => by have t := hto 5 0 4 (by omega) (by decide) (by decide) w' hc hb'; simpa [toldR] using t) (Lib.hid hch) (Lib.hid hsh) (Lib.hid hfi) (Lib.hid hz)
        · rw [if_neg hC]
          exact rdec_12_4_bad b o n c F at_ x op w hop1 h0 h1' hF hn hnc hb (by omega) hx (toldR r 0 4 12) (Lib.hid fun w' hc hb' => by have t := hto 5 0 4 (by omega) (by decide) (by decide) w' hc hb'; simpa [toldR] using t) _ (by simpa using hC) (Lib.hid hch) (Lib.hid hsh) (Lib.hid hfi) (Lib.hid hz)
  · rcases hff with rfl | rfl | rfl
    · have hz := hsz (by omega)
      rw [show sizeR 13 1 = 3 from by decide] at hz ⊢
      by_cases hlt : (n : Int) - at_ < 3
      · rw [if_pos hlt]
        exact rdec_13_1_short b o n c F at_ x op w hop1 h0 h1' hF hn hnc hb hlt hx (Lib.hid hfi) (Lib.hid hz)
      · rw [if_neg hlt]
        have hI : insD op 1 13 r = ⟨op, (rb r 0), 0, (toldR r 1 1 13), 1⟩ := by simp [insD, widthD]
        rw [hI]
        simp only
        have hch := hN op (rb r 0) 0 (toldR r 1 1 13) 1 (toldR_bounds r 1 1 13 (by omega))
        by_cases hC : checkR op (rb r 0) 0 (toldR r 1 1 13) 1 = 0
        · rw [if_pos hC]
          rw [hC] at hch
          exact rdec_13_1_ok b o n c F at_ x op w hop1 h0 h1' hF hn hnc hb (by omega) hx (rb r 0) hb0 (hr0 (by omega)) (toldR r 1 1 13) (Lib.hid fun w' hc hb' => by have t := hto 3 1 1 (by omega) (by decide) (by decide) w' hc hb'; simpa [toldR] using t) (Lib.hid hch) (Lib.hid hsh) (Lib.hid hfi) (Lib.hid hz)
        · rw [if_neg hC]
          exact rdec_13_1_bad b o n c F at_ x op w hop1 h0 h1' hF hn hnc hb (by omega) hx (rb r 0) hb0 (hr0 (by omega)) (toldR r 1 1 13) (Lib.hid fun w' hc hb' => by have t := hto 3 1 1 (by omega) (by decide) (by decide) w' hc hb'; simpa [toldR] using t) _ (by simpa using hC) (Lib.hid hch) (Lib.hid hsh) (Lib.hid hfi) (Lib.hid hz)
    · have hz := hsz (by omega)
      rw [show sizeR 13 2 = 4 from by decide] at hz ⊢
      by_cases hlt : (n : Int) - at_ < 4
      · rw [if_pos hlt]
        exact rdec_13_2_short b o n c F at_ x op w hop1 h0 h1' hF hn hnc hb hlt hx (Lib.hid hfi) (Lib.hid hz)
      · rw [if_neg hlt]
        have hI : insD op 2 13 r = ⟨op, (rb r 0), 0, (toldR r 1 2 13), 2⟩ := by simp [insD, widthD]
        rw [hI]
        simp only
        have hch := hN op (rb r 0) 0 (toldR r 1 2 13) 2 (toldR_bounds r 1 2 13 (by omega))
        by_cases hC : checkR op (rb r 0) 0 (toldR r 1 2 13) 2 = 0
        · rw [if_pos hC]
          rw [hC] at hch
          exact rdec_13_2_ok b o n c F at_ x op w hop1 h0 h1' hF hn hnc hb (by omega) hx (rb r 0) hb0 (hr0 (by omega)) (toldR r 1 2 13) (Lib.hid fun w' hc hb' => by have t := hto 4 1 2 (by omega) (by decide) (by decide) w' hc hb'; simpa [toldR] using t) (Lib.hid hch) (Lib.hid hsh) (Lib.hid hfi) (Lib.hid hz)
        · rw [if_neg hC]
          exact rdec_13_2_bad b o n c F at_ x op w hop1 h0 h1' hF hn hnc hb (by omega) hx (rb r 0) hb0 (hr0 (by omega)) (toldR r 1 2 13) (Lib.hid fun w' hc hb' => by have t := hto 4 1 2 (by omega) (by decide) (by decide) w' hc hb'; simpa [toldR] using t) _ (by simpa using hC) (Lib.hid hch) (Lib.hid hsh) (Lib.hid hfi) (Lib.hid hz)
    · have hz := hsz (by omega)
      rw [show sizeR 13 4 = 6 from by decide] at hz ⊢
      by_cases hlt : (n : Int) - at_ < 6
      · rw [if_pos hlt]
        exact rdec_13_4_short b o n c F at_ x op w hop1 h0 h1' hF hn hnc hb hlt hx (Lib.hid hfi) (Lib.hid hz)
      · rw [if_neg hlt]
        have hI : insD op 4 13 r = ⟨op, (rb r 0), 0, (toldR r 1 4 13), 4⟩ := by simp [insD, widthD]
        rw [hI]
        simp only
        have hch := hN op (rb r 0) 0 (toldR r 1 4 13) 4 (toldR_bounds r 1 4 13 (by omega))
        by_cases hC : checkR op (rb r 0) 0 (toldR r 1 4 13) 4 = 0
        · rw [if_pos hC]
          rw [hC] at hch
          exact rdec_13_4_ok b o n c F at_ x op w hop1 h0 h1' hF hn hnc hb (by omega) hx (rb r 0) hb0 (hr0 (by omega)) (toldR r 1 4 13) (Lib.hid fun w' hc hb' => by have t := hto 6 1 4 (by omega) (by decide) (by decide) w' hc hb'; simpa [toldR] using t) (Lib.hid hch) (Lib.hid hsh) (Lib.hid hfi) (Lib.hid hz)
        · rw [if_neg hC]
          exact rdec_13_4_bad b o n c F at_ x op w hop1 h0 h1' hF hn hnc hb (by omega) hx (rb r 0) hb0 (hr0 (by omega)) (toldR r 1 4 13) (Lib.hid fun w' hc hb' => by have t := hto 6 1 4 (by omega) (by decide) (by decide) w' hc hb'; simpa [toldR] using t) _ (by simpa using hC) (Lib.hid hch) (Lib.hid hsh) (Lib.hid hfi) (Lib.hid hz)
end Go.Proofs.YthcjnkakfpmpbaaDoor
