/- The walk of the reference's Decode, by shapes: D16. Conditions: none. -/
import Derived.Test.YthcjnkakfpmpbaaDoorD14
namespace Go.Proofs.YthcjnkakfpmpbaaDoor
open Go.RowKit
set_option linter.unusedVariables false
set_option linter.unusedSimpArgs false

set_option maxRecDepth 20000 in
set_option maxHeartbeats 1000000 in
theorem rdec_7_0_ok (b o n c F : Nat) (at_ x op : Int) (w : World) (hop : (op == 0) = false) (h0 : 0 ≤ at_) (h1 : at_ < n) (hF : at_.toNat = F) (hn : (n : Int) ≤ 140737488351232) (hnc : n ≤ c) (hb : b < w.heap.size) (hlen : 3 ≤ (n : Int) - at_)
    (hx : w.cell? ⟨b, o + F, none⟩ = some (.int .u8 x)) (r1 : Int) (hr1 : 0 ≤ r1 ∧ r1 < 256) (hx1 : w.cell? ⟨b, o + F + 1, none⟩ = some (.int .u8 r1)) (r2 : Int) (hr2 : 0 ≤ r2 ∧ r2 < 256) (hx2 : w.cell? ⟨b, o + F + 2, none⟩ = some (.int .u8 r2)) (Hch : Hid (∀ w, Calls Tryd.prog 51 #[.agg #[.int .i64 op, .int .i64 r1, .int .i64 (r2 / 16), .int .i32 (r2 % 16), .int .i64 0]] w fun e w' => e = .returned (.int .i64 0) ∧ Below w.heap.size w w')) (Hsh : Hid (∀ w, Calls Tryd.prog 49 #[.int .i64 op] w fun e w' => e = .returned (.int .i64 7) ∧ Below w.heap.size w w'))
    (Hfi : Hid (∀ w, Calls Tryd.prog 47 #[.int .u8 x] w fun e w' => e = .returned (.tuple #[.int .i64 op, .int .i64 0]) ∧ Below w.heap.size w w'))
    (Hsz : Hid (∀ w, Calls Tryd.prog 48 #[.int .i64 op, .int .i64 0] w fun e w' => e = .returned (.int .i64 3) ∧ Below w.heap.size w w')) :
    Calls Tryd.prog 17 #[.slice (some ⟨b, o, none⟩) n c, .int .i64 at_] w fun e w' => e = .returned (.tuple #[.agg #[.int .i64 op, .int .i64 r1, .int .i64 (r2 / 16), .int .i32 (r2 % 16), .int .i64 0], .int .i64 3, .int .i64 0]) ∧ Below w.heap.size w w' := by
  have g0 : (at_ < 0) = False := by simp; omega
  have g1 : ((n : Int) < at_) = False := by simp; omega
  have g2 : (at_ = (n : Int)) = False := by simp; omega
  have g3 : (at_ == (n : Int)) = false := by simp; omega
  have q3 : (c = F) = False := by simp; omega
  have q2 : (at_ + 3).toNat = F + 3 := by omega
  have hbb : ∀ k, (w.alloc (.cells #[.int .i64 0, .int .i64 0, .int .i64 0, .int .i32 0, .int .i64 0] 25)).cell? ⟨b, k, none⟩ = w.cell? ⟨b, k, none⟩ := fun k => World.cell?_alloc_lt _ _ _ hb
  have q5 : F + 3 ≤ c := by omega
  have q7 : at_ + 3 ≤ c := by omega
  obtain ⟨hr10, hr11⟩ := hr1
  obtain ⟨hr20, hr21⟩ := hr2
  have han : bits BinOp.and IntKind.u8 r2 15 = r2 % 16 := and15 hr20 hr21
  go_enter Tryd.func17, Tryd.ntmps17
  go_wp2_with (first
    | (go_at_call 47; refine (Hfi.out _).mono ?_; rintro e w2 ⟨rfl, hb2⟩; have hz2 : w.heap.size < w2.heap.size := (by have := hb2.size; simp at this; omega); have hR2 := (Blk.new w 25 [.int .i64 0, .int .i64 0, .int .i64 0, .int .i32 0, .int .i64 0]).below hb2 (by simp); have hB2 : Below w.heap.size w w2 := ((Below.refl _ _).alloc (Nat.le_refl _) _).trans (hb2.mono (by simp)))
    | (go_at_call 48; refine (Hsz.out _).mono ?_; rintro e w3 ⟨rfl, hb3⟩; have hz3 := hb3.size; have hR3 := hR2.below hb3 hz2; have hB3 : Below w.heap.size w w3 := hB2.trans (hb3.mono (by omega)))
    | (go_at_call 49; refine (Hsh.out _).mono ?_; rintro e w4 ⟨rfl, hb4⟩; have hz4 : w3.heap.size < w4.heap.size := (by have := hb4.size; simp at this; omega); have hD4 : RefW w w3.heap.size [.int .i64 op, .int .i64 0, .int .i64 0, .int .i32 0, .int .i64 0] w4 := ⟨by omega, (hB3.alloc hB3.size _).trans (hb4.mono (by simp; omega)), (hR3.alloc _).below hb4 (by simp; omega), (Blk.new w3 _ _).below hb4 (by simp)⟩; obtain ⟨i0, i1, i2, i3, i4⟩ := hD4.ins; have v1 := (hD4.byte (k := o + F + 1) hb).trans hx1; have v2 := (hD4.byte (k := o + F + 2) hb).trans hx2)
    | ((with_reducible show wpList _ _ _ (Oper.mk none (Op.store _ (Operand.tmp 89) (Operand.tmp 88)) _ _ _ _ :: _) _ _); refine wpList_storeV hD4 rfl 3 (.tmp 89) (.tmp 88) 1 .i64 r1 rfl (by kernel_rfl) (by kernel_rfl) (by simp) (by kernel_rfl) ?_; intro ws5 hD5; obtain ⟨s05, s15, s25, s35, s45⟩ := hD5.ins; have v15 := (hD5.byte (k := o + F + 1) hb).trans hx1; have v25 := (hD5.byte (k := o + F + 2) hb).trans hx2)
    | ((with_reducible show wpList _ _ _ (Oper.mk none (Op.store _ (Operand.tmp 95) (Operand.tmp 94)) _ _ _ _ :: _) _ _); refine wpList_storeV hD5 rfl 3 (.tmp 95) (.tmp 94) 2 .i64 (r2 / 16) rfl (by kernel_rfl) (by kernel_rfl) (by simp) (by kernel_rfl) ?_; intro ws6 hD6; obtain ⟨s06, s16, s26, s36, s46⟩ := hD6.ins; have v16 := (hD6.byte (k := o + F + 1) hb).trans hx1; have v26 := (hD6.byte (k := o + F + 2) hb).trans hx2)
    | ((with_reducible show wpList _ _ _ (Oper.mk none (Op.store _ (Operand.tmp 101) (Operand.tmp 100)) _ _ _ _ :: _) _ _); refine wpList_storeV hD6 rfl 21 (.tmp 101) (.tmp 100) 3 .i32 (r2 % 16) rfl (by kernel_rfl) (by kernel_rfl) (by simp) (by kernel_rfl) ?_; intro ws7 hD7; obtain ⟨s07, s17, s27, s37, s47⟩ := hD7.ins; have v17 := (hD7.byte (k := o + F + 1) hb).trans hx1; have v27 := (hD7.byte (k := o + F + 2) hb).trans hx2)
    | (go_at_call 51; refine (Hch.out _).mono ?_; rintro e w9 ⟨rfl, hb9⟩; have hD9 := hD7.below hb9; obtain ⟨k0, k1, k2, k3, k4⟩ := hD9.ins)
    | ((with_reducible show wpList _ _ _ (Oper.mk none (Op.store _ (Operand.tmp 4) (Operand.tmp 170)) _ _ _ _ :: _) _ _); refine wpList_storeQ hD9.2.1 hD9.2.2.1 rfl 25 (.tmp 4) (.tmp 170) (.int .i64 op) (.int .i64 r1) (.int .i64 (r2 / 16)) (.int .i32 (r2 % 16)) (.int .i64 0) rfl (by kernel_rfl) (by kernel_rfl) (by simp [Value.oneCell']) (by kernel_rfl) ?_; intro w8 hB8 hz8; obtain ⟨z0, z1, z2, z3, z4⟩ := hz8))
  refine bodyPost_ret (v := .tuple #[.agg #[.int .i64 op, .int .i64 r1, .int .i64 (r2 / 16), .int .i32 (r2 % 16), .int .i64 0], .int .i64 3, .int .i64 0]) (by simp [results, Tryd.results17, go_sem, z0, z1, z2, z3, z4]) rfl ⟨rfl, hB8⟩

set_option maxRecDepth 20000 in
set_option maxHeartbeats 1000000 in
theorem rdec_7_0_bad (b o n c F : Nat) (at_ x op : Int) (w : World) (hop : (op == 0) = false) (h0 : 0 ≤ at_) (h1 : at_ < n) (hF : at_.toNat = F) (hn : (n : Int) ≤ 140737488351232) (hnc : n ≤ c) (hb : b < w.heap.size) (hlen : 3 ≤ (n : Int) - at_)
    (hx : w.cell? ⟨b, o + F, none⟩ = some (.int .u8 x)) (r1 : Int) (hr1 : 0 ≤ r1 ∧ r1 < 256) (hx1 : w.cell? ⟨b, o + F + 1, none⟩ = some (.int .u8 r1)) (r2 : Int) (hr2 : 0 ≤ r2 ∧ r2 < 256) (hx2 : w.cell? ⟨b, o + F + 2, none⟩ = some (.int .u8 r2)) (C : Int) (hC : (C != 0) = true) (Hch : Hid (∀ w, Calls Tryd.prog 51 #[.agg #[.int .i64 op, .int .i64 r1, .int .i64 (r2 / 16), .int .i32 (r2 % 16), .int .i64 0]] w fun e w' => e = .returned (.int .i64 C) ∧ Below w.heap.size w w')) (Hsh : Hid (∀ w, Calls Tryd.prog 49 #[.int .i64 op] w fun e w' => e = .returned (.int .i64 7) ∧ Below w.heap.size w w'))
    (Hfi : Hid (∀ w, Calls Tryd.prog 47 #[.int .u8 x] w fun e w' => e = .returned (.tuple #[.int .i64 op, .int .i64 0]) ∧ Below w.heap.size w w'))
    (Hsz : Hid (∀ w, Calls Tryd.prog 48 #[.int .i64 op, .int .i64 0] w fun e w' => e = .returned (.int .i64 3) ∧ Below w.heap.size w w')) :
    Calls Tryd.prog 17 #[.slice (some ⟨b, o, none⟩) n c, .int .i64 at_] w fun e w' => e = .returned (.tuple #[.agg #[.int .i64 0, .int .i64 0, .int .i64 0, .int .i32 0, .int .i64 0], .int .i64 0, .int .i64 C]) ∧ Below w.heap.size w w' := by
  have g0 : (at_ < 0) = False := by simp; omega
  have g1 : ((n : Int) < at_) = False := by simp; omega
  have g2 : (at_ = (n : Int)) = False := by simp; omega
  have g3 : (at_ == (n : Int)) = false := by simp; omega
  have q3 : (c = F) = False := by simp; omega
  have q2 : (at_ + 3).toNat = F + 3 := by omega
  have hbb : ∀ k, (w.alloc (.cells #[.int .i64 0, .int .i64 0, .int .i64 0, .int .i32 0, .int .i64 0] 25)).cell? ⟨b, k, none⟩ = w.cell? ⟨b, k, none⟩ := fun k => World.cell?_alloc_lt _ _ _ hb
  have q5 : F + 3 ≤ c := by omega
  have q7 : at_ + 3 ≤ c := by omega
  obtain ⟨hr10, hr11⟩ := hr1
  obtain ⟨hr20, hr21⟩ := hr2
  have han : bits BinOp.and IntKind.u8 r2 15 = r2 % 16 := and15 hr20 hr21
  go_enter Tryd.func17, Tryd.ntmps17
  go_wp2_with (first
    | (go_at_call 47; refine (Hfi.out _).mono ?_; rintro e w2 ⟨rfl, hb2⟩; have hz2 : w.heap.size < w2.heap.size := (by have := hb2.size; simp at this; omega); have hR2 := (Blk.new w 25 [.int .i64 0, .int .i64 0, .int .i64 0, .int .i32 0, .int .i64 0]).below hb2 (by simp); have hB2 : Below w.heap.size w w2 := ((Below.refl _ _).alloc (Nat.le_refl _) _).trans (hb2.mono (by simp)))
    | (go_at_call 48; refine (Hsz.out _).mono ?_; rintro e w3 ⟨rfl, hb3⟩; have hz3 := hb3.size; have hR3 := hR2.below hb3 hz2; have hB3 : Below w.heap.size w w3 := hB2.trans (hb3.mono (by omega)))
    | (go_at_call 49; refine (Hsh.out _).mono ?_; rintro e w4 ⟨rfl, hb4⟩; have hz4 : w3.heap.size < w4.heap.size := (by have := hb4.size; simp at this; omega); have hD4 : RefW w w3.heap.size [.int .i64 op, .int .i64 0, .int .i64 0, .int .i32 0, .int .i64 0] w4 := ⟨by omega, (hB3.alloc hB3.size _).trans (hb4.mono (by simp; omega)), (hR3.alloc _).below hb4 (by simp; omega), (Blk.new w3 _ _).below hb4 (by simp)⟩; obtain ⟨i0, i1, i2, i3, i4⟩ := hD4.ins; have v1 := (hD4.byte (k := o + F + 1) hb).trans hx1; have v2 := (hD4.byte (k := o + F + 2) hb).trans hx2)
    | ((with_reducible show wpList _ _ _ (Oper.mk none (Op.store _ (Operand.tmp 89) (Operand.tmp 88)) _ _ _ _ :: _) _ _); refine wpList_storeV hD4 rfl 3 (.tmp 89) (.tmp 88) 1 .i64 r1 rfl (by kernel_rfl) (by kernel_rfl) (by simp) (by kernel_rfl) ?_; intro ws5 hD5; obtain ⟨s05, s15, s25, s35, s45⟩ := hD5.ins; have v15 := (hD5.byte (k := o + F + 1) hb).trans hx1; have v25 := (hD5.byte (k := o + F + 2) hb).trans hx2)
    | ((with_reducible show wpList _ _ _ (Oper.mk none (Op.store _ (Operand.tmp 95) (Operand.tmp 94)) _ _ _ _ :: _) _ _); refine wpList_storeV hD5 rfl 3 (.tmp 95) (.tmp 94) 2 .i64 (r2 / 16) rfl (by kernel_rfl) (by kernel_rfl) (by simp) (by kernel_rfl) ?_; intro ws6 hD6; obtain ⟨s06, s16, s26, s36, s46⟩ := hD6.ins; have v16 := (hD6.byte (k := o + F + 1) hb).trans hx1; have v26 := (hD6.byte (k := o + F + 2) hb).trans hx2)
    | ((with_reducible show wpList _ _ _ (Oper.mk none (Op.store _ (Operand.tmp 101) (Operand.tmp 100)) _ _ _ _ :: _) _ _); refine wpList_storeV hD6 rfl 21 (.tmp 101) (.tmp 100) 3 .i32 (r2 % 16) rfl (by kernel_rfl) (by kernel_rfl) (by simp) (by kernel_rfl) ?_; intro ws7 hD7; obtain ⟨s07, s17, s27, s37, s47⟩ := hD7.ins; have v17 := (hD7.byte (k := o + F + 1) hb).trans hx1; have v27 := (hD7.byte (k := o + F + 2) hb).trans hx2)
    | (go_at_call 51; refine (Hch.out _).mono ?_; rintro e w9 ⟨rfl, hb9⟩; have hD9 := hD7.below hb9; obtain ⟨k0, k1, k2, k3, k4⟩ := hD9.ins)
    | ((with_reducible show wpList _ _ _ (Oper.mk none (Op.store _ (Operand.tmp 4) (Operand.tmp 168)) _ _ _ _ :: _) _ _); refine wpList_storeQ hD9.2.1 hD9.2.2.1 rfl 25 (.tmp 4) (.tmp 168) (.int .i64 0) (.int .i64 0) (.int .i64 0) (.int .i32 0) (.int .i64 0) rfl (by kernel_rfl) (by kernel_rfl) (by simp [Value.oneCell']) (by kernel_rfl) ?_; intro w8 hB8 hz8; obtain ⟨z0, z1, z2, z3, z4⟩ := hz8))
  refine bodyPost_ret (v := .tuple #[.agg #[.int .i64 0, .int .i64 0, .int .i64 0, .int .i32 0, .int .i64 0], .int .i64 0, .int .i64 C]) (by simp [results, Tryd.results17, go_sem, z0, z1, z2, z3, z4]) rfl ⟨rfl, hB8⟩

set_option maxRecDepth 20000 in
set_option maxHeartbeats 1000000 in
theorem rdec_7_0_short (b o n c F : Nat) (at_ x op : Int) (w : World) (hop : (op == 0) = false) (h0 : 0 ≤ at_) (h1 : at_ < n) (hF : at_.toNat = F) (hn : (n : Int) ≤ 140737488351232) (hnc : n ≤ c) (hb : b < w.heap.size) (hlen : (n : Int) - at_ < 3)
    (hx : w.cell? ⟨b, o + F, none⟩ = some (.int .u8 x)) 
    (Hfi : Hid (∀ w, Calls Tryd.prog 47 #[.int .u8 x] w fun e w' => e = .returned (.tuple #[.int .i64 op, .int .i64 0]) ∧ Below w.heap.size w w'))
    (Hsz : Hid (∀ w, Calls Tryd.prog 48 #[.int .i64 op, .int .i64 0] w fun e w' => e = .returned (.int .i64 3) ∧ Below w.heap.size w w')) :
    Calls Tryd.prog 17 #[.slice (some ⟨b, o, none⟩) n c, .int .i64 at_] w fun e w' => e = .returned (.tuple #[.agg #[.int .i64 0, .int .i64 0, .int .i64 0, .int .i32 0, .int .i64 0], .int .i64 0, .int .i64 10]) ∧ Below w.heap.size w w' := by
  have g0 : (at_ < 0) = False := by simp; omega
  have g1 : ((n : Int) < at_) = False := by simp; omega
  have g2 : (at_ = (n : Int)) = False := by simp; omega
  have g3 : (at_ == (n : Int)) = false := by simp; omega
  have q3 : (c = F) = False := by simp; omega
  have q2 : (at_ + 3).toNat = F + 3 := by omega
  have hbb : ∀ k, (w.alloc (.cells #[.int .i64 0, .int .i64 0, .int .i64 0, .int .i32 0, .int .i64 0] 25)).cell? ⟨b, k, none⟩ = w.cell? ⟨b, k, none⟩ := fun k => World.cell?_alloc_lt _ _ _ hb
  go_enter Tryd.func17, Tryd.ntmps17
  go_wp2_with (first
    | (go_at_call 47; refine (Hfi.out _).mono ?_; rintro e w2 ⟨rfl, hb2⟩; have hz2 : w.heap.size < w2.heap.size := (by have := hb2.size; simp at this; omega); have hR2 := (Blk.new w 25 [.int .i64 0, .int .i64 0, .int .i64 0, .int .i32 0, .int .i64 0]).below hb2 (by simp); have hB2 : Below w.heap.size w w2 := ((Below.refl _ _).alloc (Nat.le_refl _) _).trans (hb2.mono (by simp)))
    | (go_at_call 48; refine (Hsz.out _).mono ?_; rintro e w3 ⟨rfl, hb3⟩; have hz3 := hb3.size; have hR3 := hR2.below hb3 hz2; have hB3 : Below w.heap.size w w3 := hB2.trans (hb3.mono (by omega)))
    | ((with_reducible show wpList _ _ _ (Oper.mk none (Op.store _ (Operand.tmp 4) (Operand.tmp 47)) _ _ _ _ :: _) _ _); refine wpList_storeQ hB3 hR3 rfl 25 (.tmp 4) (.tmp 47) (.int .i64 0) (.int .i64 0) (.int .i64 0) (.int .i32 0) (.int .i64 0) rfl (by kernel_rfl) (by kernel_rfl) (by simp [Value.oneCell']) (by kernel_rfl) ?_; intro w8 hB8 hz8; obtain ⟨z0, z1, z2, z3, z4⟩ := hz8))
  refine bodyPost_ret (v := .tuple #[.agg #[.int .i64 0, .int .i64 0, .int .i64 0, .int .i32 0, .int .i64 0], .int .i64 0, .int .i64 10]) (by simp [results, Tryd.results17, go_sem, z0, z1, z2, z3, z4]) rfl ⟨rfl, hB8⟩

set_option maxRecDepth 20000 in
set_option maxHeartbeats 1000000 in
theorem rdec_8_0_ok (b o n c F : Nat) (at_ x op : Int) (w : World) (hop : (op == 0) = false) (h0 : 0 ≤ at_) (h1 : at_ < n) (hF : at_.toNat = F) (hn : (n : Int) ≤ 140737488351232) (hnc : n ≤ c) (hb : b < w.heap.size) (hlen : 3 ≤ (n : Int) - at_)
    (hx : w.cell? ⟨b, o + F, none⟩ = some (.int .u8 x)) (r1 : Int) (hr1 : 0 ≤ r1 ∧ r1 < 256) (hx1 : w.cell? ⟨b, o + F + 1, none⟩ = some (.int .u8 r1)) (NV : Int) (Hto : Hid (∀ w', (∀ k, w'.cell? ⟨b, k, none⟩ = w.cell? ⟨b, k, none⟩) → b < w'.heap.size → Calls Tryd.prog 50 #[.slice (some ⟨b, o + F, none⟩) 3 (c - F), .int .i64 2, .int .i64 1] w' fun e w'' => e = .returned (.int .i32 NV) ∧ w' = w'')) (Hch : Hid (∀ w, Calls Tryd.prog 51 #[.agg #[.int .i64 op, .int .i64 r1, .int .i64 0, .int .i32 NV, .int .i64 0]] w fun e w' => e = .returned (.int .i64 0) ∧ Below w.heap.size w w')) (Hsh : Hid (∀ w, Calls Tryd.prog 49 #[.int .i64 op] w fun e w' => e = .returned (.int .i64 8) ∧ Below w.heap.size w w'))
    (Hfi : Hid (∀ w, Calls Tryd.prog 47 #[.int .u8 x] w fun e w' => e = .returned (.tuple #[.int .i64 op, .int .i64 0]) ∧ Below w.heap.size w w'))
    (Hsz : Hid (∀ w, Calls Tryd.prog 48 #[.int .i64 op, .int .i64 0] w fun e w' => e = .returned (.int .i64 3) ∧ Below w.heap.size w w')) :
    Calls Tryd.prog 17 #[.slice (some ⟨b, o, none⟩) n c, .int .i64 at_] w fun e w' => e = .returned (.tuple #[.agg #[.int .i64 op, .int .i64 r1, .int .i64 0, .int .i32 NV, .int .i64 0], .int .i64 3, .int .i64 0]) ∧ Below w.heap.size w w' := by
  have g0 : (at_ < 0) = False := by simp; omega
  have g1 : ((n : Int) < at_) = False := by simp; omega
  have g2 : (at_ = (n : Int)) = False := by simp; omega
  have g3 : (at_ == (n : Int)) = false := by simp; omega
  have q3 : (c = F) = False := by simp; omega
  have q2 : (at_ + 3).toNat = F + 3 := by omega
  have hbb : ∀ k, (w.alloc (.cells #[.int .i64 0, .int .i64 0, .int .i64 0, .int .i32 0, .int .i64 0] 25)).cell? ⟨b, k, none⟩ = w.cell? ⟨b, k, none⟩ := fun k => World.cell?_alloc_lt _ _ _ hb
  have q5 : F + 3 ≤ c := by omega
  have q7 : at_ + 3 ≤ c := by omega
  obtain ⟨hr10, hr11⟩ := hr1
  go_enter Tryd.func17, Tryd.ntmps17
  go_wp2_with (first
    | (go_at_call 47; refine (Hfi.out _).mono ?_; rintro e w2 ⟨rfl, hb2⟩; have hz2 : w.heap.size < w2.heap.size := (by have := hb2.size; simp at this; omega); have hR2 := (Blk.new w 25 [.int .i64 0, .int .i64 0, .int .i64 0, .int .i32 0, .int .i64 0]).below hb2 (by simp); have hB2 : Below w.heap.size w w2 := ((Below.refl _ _).alloc (Nat.le_refl _) _).trans (hb2.mono (by simp)))
    | (go_at_call 48; refine (Hsz.out _).mono ?_; rintro e w3 ⟨rfl, hb3⟩; have hz3 := hb3.size; have hR3 := hR2.below hb3 hz2; have hB3 : Below w.heap.size w w3 := hB2.trans (hb3.mono (by omega)))
    | (go_at_call 49; refine (Hsh.out _).mono ?_; rintro e w4 ⟨rfl, hb4⟩; have hz4 : w3.heap.size < w4.heap.size := (by have := hb4.size; simp at this; omega); have hD4 : RefW w w3.heap.size [.int .i64 op, .int .i64 0, .int .i64 0, .int .i32 0, .int .i64 0] w4 := ⟨by omega, (hB3.alloc hB3.size _).trans (hb4.mono (by simp; omega)), (hR3.alloc _).below hb4 (by simp; omega), (Blk.new w3 _ _).below hb4 (by simp)⟩; obtain ⟨i0, i1, i2, i3, i4⟩ := hD4.ins; have v1 := (hD4.byte (k := o + F + 1) hb).trans hx1)
    | ((with_reducible show wpList _ _ _ (Oper.mk none (Op.store _ (Operand.tmp 108) (Operand.tmp 107)) _ _ _ _ :: _) _ _); refine wpList_storeV hD4 rfl 3 (.tmp 108) (.tmp 107) 1 .i64 r1 rfl (by kernel_rfl) (by kernel_rfl) (by simp) (by kernel_rfl) ?_; intro ws5 hD5; obtain ⟨s05, s15, s25, s35, s45⟩ := hD5.ins; have v15 := (hD5.byte (k := o + F + 1) hb).trans hx1)
    | (go_at_call 50; refine (Hto.out _ (fun k => hD5.byte hb) (by have := hD5.2.1.size; omega)).mono ?_; rintro e wt ⟨rfl, rfl⟩)
    | ((with_reducible show wpList _ _ _ (Oper.mk none (Op.store _ (Operand.tmp 111) (Operand.tmp 110)) _ _ _ _ :: _) _ _); refine wpList_storeV hD5 rfl 21 (.tmp 111) (.tmp 110) 3 .i32 NV rfl (by kernel_rfl) (by kernel_rfl) (by simp) (by kernel_rfl) ?_; intro ws6 hD6; obtain ⟨s06, s16, s26, s36, s46⟩ := hD6.ins; have v16 := (hD6.byte (k := o + F + 1) hb).trans hx1)
    | (go_at_call 51; refine (Hch.out _).mono ?_; rintro e w9 ⟨rfl, hb9⟩; have hD9 := hD6.below hb9; obtain ⟨k0, k1, k2, k3, k4⟩ := hD9.ins)
    | ((with_reducible show wpList _ _ _ (Oper.mk none (Op.store _ (Operand.tmp 4) (Operand.tmp 170)) _ _ _ _ :: _) _ _); refine wpList_storeQ hD9.2.1 hD9.2.2.1 rfl 25 (.tmp 4) (.tmp 170) (.int .i64 op) (.int .i64 r1) (.int .i64 0) (.int .i32 NV) (.int .i64 0) rfl (by kernel_rfl) (by kernel_rfl) (by simp [Value.oneCell']) (by kernel_rfl) ?_; intro w8 hB8 hz8; obtain ⟨z0, z1, z2, z3, z4⟩ := hz8))
  refine bodyPost_ret (v := .tuple #[.agg #[.int .i64 op, .int .i64 r1, .int .i64 0, .int .i32 NV, .int .i64 0], .int .i64 3, .int .i64 0]) (by simp [results, Tryd.results17, go_sem, z0, z1, z2, z3, z4]) rfl ⟨rfl, hB8⟩

set_option maxRecDepth 20000 in
set_option maxHeartbeats 1000000 in
theorem rdec_8_0_bad (b o n c F : Nat) (at_ x op : Int) (w : World) (hop : (op == 0) = false) (h0 : 0 ≤ at_) (h1 : at_ < n) (hF : at_.toNat = F) (hn : (n : Int) ≤ 140737488351232) (hnc : n ≤ c) (hb : b < w.heap.size) (hlen : 3 ≤ (n : Int) - at_)
    (hx : w.cell? ⟨b, o + F, none⟩ = some (.int .u8 x)) (r1 : Int) (hr1 : 0 ≤ r1 ∧ r1 < 256) (hx1 : w.cell? ⟨b, o + F + 1, none⟩ = some (.int .u8 r1)) (NV : Int) (Hto : Hid (∀ w', (∀ k, w'.cell? ⟨b, k, none⟩ = w.cell? ⟨b, k, none⟩) → b < w'.heap.size → Calls Tryd.prog 50 #[.slice (some ⟨b, o + F, none⟩) 3 (c - F), .int .i64 2, .int .i64 1] w' fun e w'' => e = .returned (.int .i32 NV) ∧ w' = w'')) (C : Int) (hC : (C != 0) = true) (Hch : Hid (∀ w, Calls Tryd.prog 51 #[.agg #[.int .i64 op, .int .i64 r1, .int .i64 0, .int .i32 NV, .int .i64 0]] w fun e w' => e = .returned (.int .i64 C) ∧ Below w.heap.size w w')) (Hsh : Hid (∀ w, Calls Tryd.prog 49 #[.int .i64 op] w fun e w' => e = .returned (.int .i64 8) ∧ Below w.heap.size w w'))
    (Hfi : Hid (∀ w, Calls Tryd.prog 47 #[.int .u8 x] w fun e w' => e = .returned (.tuple #[.int .i64 op, .int .i64 0]) ∧ Below w.heap.size w w'))
    (Hsz : Hid (∀ w, Calls Tryd.prog 48 #[.int .i64 op, .int .i64 0] w fun e w' => e = .returned (.int .i64 3) ∧ Below w.heap.size w w')) :
    Calls Tryd.prog 17 #[.slice (some ⟨b, o, none⟩) n c, .int .i64 at_] w fun e w' => e = .returned (.tuple #[.agg #[.int .i64 0, .int .i64 0, .int .i64 0, .int .i32 0, .int .i64 0], .int .i64 0, .int .i64 C]) ∧ Below w.heap.size w w' := by
  have g0 : (at_ < 0) = False := by simp; omega
  have g1 : ((n : Int) < at_) = False := by simp; omega
  have g2 : (at_ = (n : Int)) = False := by simp; omega
  have g3 : (at_ == (n : Int)) = false := by simp; omega
  have q3 : (c = F) = False := by simp; omega
  have q2 : (at_ + 3).toNat = F + 3 := by omega
  have hbb : ∀ k, (w.alloc (.cells #[.int .i64 0, .int .i64 0, .int .i64 0, .int .i32 0, .int .i64 0] 25)).cell? ⟨b, k, none⟩ = w.cell? ⟨b, k, none⟩ := fun k => World.cell?_alloc_lt _ _ _ hb
  have q5 : F + 3 ≤ c := by omega
  have q7 : at_ + 3 ≤ c := by omega
  obtain ⟨hr10, hr11⟩ := hr1
  go_enter Tryd.func17, Tryd.ntmps17
  go_wp2_with (first
    | (go_at_call 47; refine (Hfi.out _).mono ?_; rintro e w2 ⟨rfl, hb2⟩; have hz2 : w.heap.size < w2.heap.size := (by have := hb2.size; simp at this; omega); have hR2 := (Blk.new w 25 [.int .i64 0, .int .i64 0, .int .i64 0, .int .i32 0, .int .i64 0]).below hb2 (by simp); have hB2 : Below w.heap.size w w2 := ((Below.refl _ _).alloc (Nat.le_refl _) _).trans (hb2.mono (by simp)))
    | (go_at_call 48; refine (Hsz.out _).mono ?_; rintro e w3 ⟨rfl, hb3⟩; have hz3 := hb3.size; have hR3 := hR2.below hb3 hz2; have hB3 : Below w.heap.size w w3 := hB2.trans (hb3.mono (by omega)))
    | (go_at_call 49; refine (Hsh.out _).mono ?_; rintro e w4 ⟨rfl, hb4⟩; have hz4 : w3.heap.size < w4.heap.size := (by have := hb4.size; simp at this; omega); have hD4 : RefW w w3.heap.size [.int .i64 op, .int .i64 0, .int .i64 0, .int .i32 0, .int .i64 0] w4 := ⟨by omega, (hB3.alloc hB3.size _).trans (hb4.mono (by simp; omega)), (hR3.alloc _).below hb4 (by simp; omega), (Blk.new w3 _ _).below hb4 (by simp)⟩; obtain ⟨i0, i1, i2, i3, i4⟩ := hD4.ins; have v1 := (hD4.byte (k := o + F + 1) hb).trans hx1)
    | ((with_reducible show wpList _ _ _ (Oper.mk none (Op.store _ (Operand.tmp 108) (Operand.tmp 107)) _ _ _ _ :: _) _ _); refine wpList_storeV hD4 rfl 3 (.tmp 108) (.tmp 107) 1 .i64 r1 rfl (by kernel_rfl) (by kernel_rfl) (by simp) (by kernel_rfl) ?_; intro ws5 hD5; obtain ⟨s05, s15, s25, s35, s45⟩ := hD5.ins; have v15 := (hD5.byte (k := o + F + 1) hb).trans hx1)
    | (go_at_call 50; refine (Hto.out _ (fun k => hD5.byte hb) (by have := hD5.2.1.size; omega)).mono ?_; rintro e wt ⟨rfl, rfl⟩)
    | ((with_reducible show wpList _ _ _ (Oper.mk none (Op.store _ (Operand.tmp 111) (Operand.tmp 110)) _ _ _ _ :: _) _ _); refine wpList_storeV hD5 rfl 21 (.tmp 111) (.tmp 110) 3 .i32 NV rfl (by kernel_rfl) (by kernel_rfl) (by simp) (by kernel_rfl) ?_; intro ws6 hD6; obtain ⟨s06, s16, s26, s36, s46⟩ := hD6.ins; have v16 := (hD6.byte (k := o + F + 1) hb).trans hx1)
    | (go_at_call 51; refine (Hch.out _).mono ?_; rintro e w9 ⟨rfl, hb9⟩; have hD9 := hD6.below hb9; obtain ⟨k0, k1, k2, k3, k4⟩ := hD9.ins)
    | ((with_reducible show wpList _ _ _ (Oper.mk none (Op.store _ (Operand.tmp 4) (Operand.tmp 168)) _ _ _ _ :: _) _ _); refine wpList_storeQ hD9.2.1 hD9.2.2.1 rfl 25 (.tmp 4) (.tmp 168) (.int .i64 0) (.int .i64 0) (.int .i64 0) (.int .i32 0) (.int .i64 0) rfl (by kernel_rfl) (by kernel_rfl) (by simp [Value.oneCell']) (by kernel_rfl) ?_; intro w8 hB8 hz8; obtain ⟨z0, z1, z2, z3, z4⟩ := hz8))
  refine bodyPost_ret (v := .tuple #[.agg #[.int .i64 0, .int .i64 0, .int .i64 0, .int .i32 0, .int .i64 0], .int .i64 0, .int .i64 C]) (by simp [results, Tryd.results17, go_sem, z0, z1, z2, z3, z4]) rfl ⟨rfl, hB8⟩

set_option maxRecDepth 20000 in
set_option maxHeartbeats 1000000 in
theorem rdec_8_0_short (b o n c F : Nat) (at_ x op : Int) (w : World) (hop : (op == 0) = false) (h0 : 0 ≤ at_) (h1 : at_ < n) (hF : at_.toNat = F) (hn : (n : Int) ≤ 140737488351232) (hnc : n ≤ c) (hb : b < w.heap.size) (hlen : (n : Int) - at_ < 3)
    (hx : w.cell? ⟨b, o + F, none⟩ = some (.int .u8 x)) 
    (Hfi : Hid (∀ w, Calls Tryd.prog 47 #[.int .u8 x] w fun e w' => e = .returned (.tuple #[.int .i64 op, .int .i64 0]) ∧ Below w.heap.size w w'))
    (Hsz : Hid (∀ w, Calls Tryd.prog 48 #[.int .i64 op, .int .i64 0] w fun e w' => e = .returned (.int .i64 3) ∧ Below w.heap.size w w')) :
    Calls Tryd.prog 17 #[.slice (some ⟨b, o, none⟩) n c, .int .i64 at_] w fun e w' => e = .returned (.tuple #[.agg #[.int .i64 0, .int .i64 0, .int .i64 0, .int .i32 0, .int .i64 0], .int .i64 0, .int .i64 10]) ∧ Below w.heap.size w w' := by
  have g0 : (at_ < 0) = False := by simp; omega
  have g1 : ((n : Int) < at_) = False := by simp; omega
  have g2 : (at_ = (n : Int)) = False := by simp; omega
  have g3 : (at_ == (n : Int)) = false := by simp; omega
  have q3 : (c = F) = False := by simp; omega
  have q2 : (at_ + 3).toNat = F + 3 := by omega
  have hbb : ∀ k, (w.alloc (.cells #[.int .i64 0, .int .i64 0, .int .i64 0, .int .i32 0, .int .i64 0] 25)).cell? ⟨b, k, none⟩ = w.cell? ⟨b, k, none⟩ := fun k => World.cell?_alloc_lt _ _ _ hb
  go_enter Tryd.func17, Tryd.ntmps17
  go_wp2_with (first
    | (go_at_call 47; refine (Hfi.out _).mono ?_; rintro e w2 ⟨rfl, hb2⟩; have hz2 : w.heap.size < w2.heap.size := (by have := hb2.size; simp at this; omega); have hR2 := (Blk.new w 25 [.int .i64 0, .int .i64 0, .int .i64 0, .int .i32 0, .int .i64 0]).below hb2 (by simp); have hB2 : Below w.heap.size w w2 := ((Below.refl _ _).alloc (Nat.le_refl _) _).trans (hb2.mono (by simp)))
    | (go_at_call 48; refine (Hsz.out _).mono ?_; rintro e w3 ⟨rfl, hb3⟩; have hz3 := hb3.size; have hR3 := hR2.below hb3 hz2; have hB3 : Below w.heap.size w w3 := hB2.trans (hb3.mono (by omega)))
    | ((with_reducible show wpList _ _ _ (Oper.mk none (Op.store _ (Operand.tmp 4) (Operand.tmp 47)) _ _ _ _ :: _) _ _); refine wpList_storeQ hB3 hR3 rfl 25 (.tmp 4) (.tmp 47) (.int .i64 0) (.int .i64 0) (.int .i64 0) (.int .i32 0) (.int .i64 0) rfl (by kernel_rfl) (by kernel_rfl) (by simp [Value.oneCell']) (by kernel_rfl) ?_; intro w8 hB8 hz8; obtain ⟨z0, z1, z2, z3, z4⟩ := hz8))
  refine bodyPost_ret (v := .tuple #[.agg #[.int .i64 0, .int .i64 0, .int .i64 0, .int .i32 0, .int .i64 0], .int .i64 0, .int .i64 10]) (by simp [results, Tryd.results17, go_sem, z0, z1, z2, z3, z4]) rfl ⟨rfl, hB8⟩

set_option maxRecDepth 20000 in
set_option maxHeartbeats 1000000 in
theorem rdec_9_0_ok (b o n c F : Nat) (at_ x op : Int) (w : World) (hop : (op == 0) = false) (h0 : 0 ≤ at_) (h1 : at_ < n) (hF : at_.toNat = F) (hn : (n : Int) ≤ 140737488351232) (hnc : n ≤ c) (hb : b < w.heap.size) (hlen : 2 ≤ (n : Int) - at_)
    (hx : w.cell? ⟨b, o + F, none⟩ = some (.int .u8 x)) (r1 : Int) (hr1 : 0 ≤ r1 ∧ r1 < 256) (hx1 : w.cell? ⟨b, o + F + 1, none⟩ = some (.int .u8 r1)) (Hch : Hid (∀ w, Calls Tryd.prog 51 #[.agg #[.int .i64 op, .int .i64 0, .int .i64 0, .int .i32 r1, .int .i64 0]] w fun e w' => e = .returned (.int .i64 0) ∧ Below w.heap.size w w')) (Hsh : Hid (∀ w, Calls Tryd.prog 49 #[.int .i64 op] w fun e w' => e = .returned (.int .i64 9) ∧ Below w.heap.size w w'))
    (Hfi : Hid (∀ w, Calls Tryd.prog 47 #[.int .u8 x] w fun e w' => e = .returned (.tuple #[.int .i64 op, .int .i64 0]) ∧ Below w.heap.size w w'))
    (Hsz : Hid (∀ w, Calls Tryd.prog 48 #[.int .i64 op, .int .i64 0] w fun e w' => e = .returned (.int .i64 2) ∧ Below w.heap.size w w')) :
    Calls Tryd.prog 17 #[.slice (some ⟨b, o, none⟩) n c, .int .i64 at_] w fun e w' => e = .returned (.tuple #[.agg #[.int .i64 op, .int .i64 0, .int .i64 0, .int .i32 r1, .int .i64 0], .int .i64 2, .int .i64 0]) ∧ Below w.heap.size w w' := by
  have g0 : (at_ < 0) = False := by simp; omega
  have g1 : ((n : Int) < at_) = False := by simp; omega
  have g2 : (at_ = (n : Int)) = False := by simp; omega
  have g3 : (at_ == (n : Int)) = false := by simp; omega
  have q3 : (c = F) = False := by simp; omega
  have q2 : (at_ + 2).toNat = F + 2 := by omega
  have hbb : ∀ k, (w.alloc (.cells #[.int .i64 0, .int .i64 0, .int .i64 0, .int .i32 0, .int .i64 0] 25)).cell? ⟨b, k, none⟩ = w.cell? ⟨b, k, none⟩ := fun k => World.cell?_alloc_lt _ _ _ hb
  have q5 : F + 2 ≤ c := by omega
  have q7 : at_ + 2 ≤ c := by omega
  obtain ⟨hr10, hr11⟩ := hr1
  go_enter Tryd.func17, Tryd.ntmps17
  go_wp2_with (first
    | (go_at_call 47; refine (Hfi.out _).mono ?_; rintro e w2 ⟨rfl, hb2⟩; have hz2 : w.heap.size < w2.heap.size := (by have := hb2.size; simp at this; omega); have hR2 := (Blk.new w 25 [.int .i64 0, .int .i64 0, .int .i64 0, .int .i32 0, .int .i64 0]).below hb2 (by simp); have hB2 : Below w.heap.size w w2 := ((Below.refl _ _).alloc (Nat.le_refl _) _).trans (hb2.mono (by simp)))
    | (go_at_call 48; refine (Hsz.out _).mono ?_; rintro e w3 ⟨rfl, hb3⟩; have hz3 := hb3.size; have hR3 := hR2.below hb3 hz2; have hB3 : Below w.heap.size w w3 := hB2.trans (hb3.mono (by omega)))
    | (go_at_call 49; refine (Hsh.out _).mono ?_; rintro e w4 ⟨rfl, hb4⟩; have hz4 : w3.heap.size < w4.heap.size := (by have := hb4.size; simp at this; omega); have hD4 : RefW w w3.heap.size [.int .i64 op, .int .i64 0, .int .i64 0, .int .i32 0, .int .i64 0] w4 := ⟨by omega, (hB3.alloc hB3.size _).trans (hb4.mono (by simp; omega)), (hR3.alloc _).below hb4 (by simp; omega), (Blk.new w3 _ _).below hb4 (by simp)⟩; obtain ⟨i0, i1, i2, i3, i4⟩ := hD4.ins; have v1 := (hD4.byte (k := o + F + 1) hb).trans hx1)
    | ((with_reducible show wpList _ _ _ (Oper.mk none (Op.store _ (Operand.tmp 118) (Operand.tmp 117)) _ _ _ _ :: _) _ _); refine wpList_storeV hD4 rfl 21 (.tmp 118) (.tmp 117) 3 .i32 r1 rfl (by kernel_rfl) (by kernel_rfl) (by simp) (by kernel_rfl) ?_; intro ws5 hD5; obtain ⟨s05, s15, s25, s35, s45⟩ := hD5.ins; have v15 := (hD5.byte (k := o + F + 1) hb).trans hx1)
    | (go_at_call 51; refine (Hch.out _).mono ?_; rintro e w9 ⟨rfl, hb9⟩; have hD9 := hD5.below hb9; obtain ⟨k0, k1, k2, k3, k4⟩ := hD9.ins)
    | ((with_reducible show wpList _ _ _ (Oper.mk none (Op.store _ (Operand.tmp 4) (Operand.tmp 170)) _ _ _ _ :: _) _ _); refine wpList_storeQ hD9.2.1 hD9.2.2.1 rfl 25 (.tmp 4) (.tmp 170) (.int .i64 op) (.int .i64 0) (.int .i64 0) (.int .i32 r1) (.int .i64 0) rfl (by kernel_rfl) (by kernel_rfl) (by simp [Value.oneCell']) (by kernel_rfl) ?_; intro w8 hB8 hz8; obtain ⟨z0, z1, z2, z3, z4⟩ := hz8))
  refine bodyPost_ret (v := .tuple #[.agg #[.int .i64 op, .int .i64 0, .int .i64 0, .int .i32 r1, .int .i64 0], .int .i64 2, .int .i64 0]) (by simp [results, Tryd.results17, go_sem, z0, z1, z2, z3, z4]) rfl ⟨rfl, hB8⟩

set_option maxRecDepth 20000 in
set_option maxHeartbeats 1000000 in
theorem rdec_9_0_bad (b o n c F : Nat) (at_ x op : Int) (w : World) (hop : (op == 0) = false) (h0 : 0 ≤ at_) (h1 : at_ < n) (hF : at_.toNat = F) (hn : (n : Int) ≤ 140737488351232) (hnc : n ≤ c) (hb : b < w.heap.size) (hlen : 2 ≤ (n : Int) - at_)
    (hx : w.cell? ⟨b, o + F, none⟩ = some (.int .u8 x)) (r1 : Int) (hr1 : 0 ≤ r1 ∧ r1 < 256) (hx1 : w.cell? ⟨b, o + F + 1, none⟩ = some (.int .u8 r1)) (C : Int) (hC : (C != 0) = true) (Hch : Hid (∀ w, Calls Tryd.prog 51 #[.agg #[.int .i64 op, .int .i64 0, .int .i64 0, .int .i32 r1, .int .i64 0]] w fun e w' => e = .returned (.int .i64 C) ∧ Below w.heap.size w w')) (Hsh : Hid (∀ w, Calls Tryd.prog 49 #[.int .i64 op] w fun e w' => e = .returned (.int .i64 9) ∧ Below w.heap.size w w'))
    (Hfi : Hid (∀ w, Calls Tryd.prog 47 #[.int .u8 x] w fun e w' => e = .returned (.tuple #[.int .i64 op, .int .i64 0]) ∧ Below w.heap.size w w'))
    (Hsz : Hid (∀ w, Calls Tryd.prog 48 #[.int .i64 op, .int .i64 0] w fun e w' => e = .returned (.int .i64 2) ∧ Below w.heap.size w w')) :
    Calls Tryd.prog 17 #[.slice (some ⟨b, o, none⟩) n c, .int .i64 at_] w fun e w' => e = .returned (.tuple #[.agg #[.int .i64 0, .int .i64 0, .int .i64 0, .int .i32 0, .int .i64 0], .int .i64 0, .int .i64 C]) ∧ Below w.heap.size w w' := by
  have g0 : (at_ < 0) = False := by simp; omega
  have g1 : ((n : Int) < at_) = False := by simp; omega
  have g2 : (at_ = (n : Int)) = False := by simp; omega
  have g3 : (at_ == (n : Int)) = false := by simp; omega
  have q3 : (c = F) = False := by simp; omega
  have q2 : (at_ + 2).toNat = F + 2 := by omega
  have hbb : ∀ k, (w.alloc (.cells #[.int .i64 0, .int .i64 0, .int .i64 0, .int .i32 0, .int .i64 0] 25)).cell? ⟨b, k, none⟩ = w.cell? ⟨b, k, none⟩ := fun k => World.cell?_alloc_lt _ _ _ hb
  have q5 : F + 2 ≤ c := by omega
  have q7 : at_ + 2 ≤ c := by omega
  obtain ⟨hr10, hr11⟩ := hr1
  go_enter Tryd.func17, Tryd.ntmps17
  go_wp2_with (first
    | (go_at_call 47; refine (Hfi.out _).mono ?_; rintro e w2 ⟨rfl, hb2⟩; have hz2 : w.heap.size < w2.heap.size := (by have := hb2.size; simp at this; omega); have hR2 := (Blk.new w 25 [.int .i64 0, .int .i64 0, .int .i64 0, .int .i32 0, .int .i64 0]).below hb2 (by simp); have hB2 : Below w.heap.size w w2 := ((Below.refl _ _).alloc (Nat.le_refl _) _).trans (hb2.mono (by simp)))
    | (go_at_call 48; refine (Hsz.out _).mono ?_; rintro e w3 ⟨rfl, hb3⟩; have hz3 := hb3.size; have hR3 := hR2.below hb3 hz2; have hB3 : Below w.heap.size w w3 := hB2.trans (hb3.mono (by omega)))
    | (go_at_call 49; refine (Hsh.out _).mono ?_; rintro e w4 ⟨rfl, hb4⟩; have hz4 : w3.heap.size < w4.heap.size := (by have := hb4.size; simp at this; omega); have hD4 : RefW w w3.heap.size [.int .i64 op, .int .i64 0, .int .i64 0, .int .i32 0, .int .i64 0] w4 := ⟨by omega, (hB3.alloc hB3.size _).trans (hb4.mono (by simp; omega)), (hR3.alloc _).below hb4 (by simp; omega), (Blk.new w3 _ _).below hb4 (by simp)⟩; obtain ⟨i0, i1, i2, i3, i4⟩ := hD4.ins; have v1 := (hD4.byte (k := o + F + 1) hb).trans hx1)
    | ((with_reducible show wpList _ _ _ (Oper.mk none (Op.store _ (Operand.tmp 118) (Operand.tmp 117)) _ _ _ _ :: _) _ _); refine wpList_storeV hD4 rfl 21 (.tmp 118) (.tmp 117) 3 .i32 r1 rfl (by kernel_rfl) (by kernel_rfl) (by simp) (by kernel_rfl) ?_; intro ws5 hD5; obtain ⟨s05, s15, s25, s35, s45⟩ := hD5.ins; have v15 := (hD5.byte (k := o + F + 1) hb).trans hx1)
    | (go_at_call 51; refine (Hch.out _).mono ?_; rintro e w9 ⟨rfl, hb9⟩; have hD9 := hD5.below hb9; obtain ⟨k0, k1, k2, k3, k4⟩ := hD9.ins)
    | ((with_reducible show wpList _ _ _ (Oper.mk none (Op.store _ (Operand.tmp 4) (Operand.tmp 168)) _ _ _ _ :: _) _ _); refine wpList_storeQ hD9.2.1 hD9.2.2.1 rfl 25 (.tmp 4) (.tmp 168) (.int .i64 0) (.int .i64 0) (.int .i64 0) (.int .i32 0) (.int .i64 0) rfl (by kernel_rfl) (by kernel_rfl) (by simp [Value.oneCell']) (by kernel_rfl) ?_; intro w8 hB8 hz8; obtain ⟨z0, z1, z2, z3, z4⟩ := hz8))
  refine bodyPost_ret (v := .tuple #[.agg #[.int .i64 0, .int .i64 0, .int .i64 0, .int .i32 0, .int .i64 0], .int .i64 0, .int .i64 C]) (by simp [results, Tryd.results17, go_sem, z0, z1, z2, z3, z4]) rfl ⟨rfl, hB8⟩

set_option maxRecDepth 20000 in
set_option maxHeartbeats 1000000 in
theorem rdec_9_0_short (b o n c F : Nat) (at_ x op : Int) (w : World) (hop : (op == 0) = false) (h0 : 0 ≤ at_) (h1 : at_ < n) (hF : at_.toNat = F) (hn : (n : Int) ≤ 140737488351232) (hnc : n ≤ c) (hb : b < w.heap.size) (hlen : (n : Int) - at_ < 2)
    (hx : w.cell? ⟨b, o + F, none⟩ = some (.int .u8 x)) 
    (Hfi : Hid (∀ w, Calls Tryd.prog 47 #[.int .u8 x] w fun e w' => e = .returned (.tuple #[.int .i64 op, .int .i64 0]) ∧ Below w.heap.size w w'))
    (Hsz : Hid (∀ w, Calls Tryd.prog 48 #[.int .i64 op, .int .i64 0] w fun e w' => e = .returned (.int .i64 2) ∧ Below w.heap.size w w')) :
    Calls Tryd.prog 17 #[.slice (some ⟨b, o, none⟩) n c, .int .i64 at_] w fun e w' => e = .returned (.tuple #[.agg #[.int .i64 0, .int .i64 0, .int .i64 0, .int .i32 0, .int .i64 0], .int .i64 0, .int .i64 10]) ∧ Below w.heap.size w w' := by
  have g0 : (at_ < 0) = False := by simp; omega
  have g1 : ((n : Int) < at_) = False := by simp; omega
  have g2 : (at_ = (n : Int)) = False := by simp; omega
  have g3 : (at_ == (n : Int)) = false := by simp; omega
  have q3 : (c = F) = False := by simp; omega
  have q2 : (at_ + 2).toNat = F + 2 := by omega
  have hbb : ∀ k, (w.alloc (.cells #[.int .i64 0, .int .i64 0, .int .i64 0, .int .i32 0, .int .i64 0] 25)).cell? ⟨b, k, none⟩ = w.cell? ⟨b, k, none⟩ := fun k => World.cell?_alloc_lt _ _ _ hb
  go_enter Tryd.func17, Tryd.ntmps17
  go_wp2_with (first
    | (go_at_call 47; refine (Hfi.out _).mono ?_; rintro e w2 ⟨rfl, hb2⟩; have hz2 : w.heap.size < w2.heap.size := (by have := hb2.size; simp at this; omega); have hR2 := (Blk.new w 25 [.int .i64 0, .int .i64 0, .int .i64 0, .int .i32 0, .int .i64 0]).below hb2 (by simp); have hB2 : Below w.heap.size w w2 := ((Below.refl _ _).alloc (Nat.le_refl _) _).trans (hb2.mono (by simp)))
    | (go_at_call 48; refine (Hsz.out _).mono ?_; rintro e w3 ⟨rfl, hb3⟩; have hz3 := hb3.size; have hR3 := hR2.below hb3 hz2; have hB3 : Below w.heap.size w w3 := hB2.trans (hb3.mono (by omega)))
    | ((with_reducible show wpList _ _ _ (Oper.mk none (Op.store _ (Operand.tmp 4) (Operand.tmp 47)) _ _ _ _ :: _) _ _); refine wpList_storeQ hB3 hR3 rfl 25 (.tmp 4) (.tmp 47) (.int .i64 0) (.int .i64 0) (.int .i64 0) (.int .i32 0) (.int .i64 0) rfl (by kernel_rfl) (by kernel_rfl) (by simp [Value.oneCell']) (by kernel_rfl) ?_; intro w8 hB8 hz8; obtain ⟨z0, z1, z2, z3, z4⟩ := hz8))
  refine bodyPost_ret (v := .tuple #[.agg #[.int .i64 0, .int .i64 0, .int .i64 0, .int .i32 0, .int .i64 0], .int .i64 0, .int .i64 10]) (by simp [results, Tryd.results17, go_sem, z0, z1, z2, z3, z4]) rfl ⟨rfl, hB8⟩

set_option maxRecDepth 20000 in
set_option maxHeartbeats 1000000 in
theorem rdec_10_0_ok (b o n c F : Nat) (at_ x op : Int) (w : World) (hop : (op == 0) = false) (h0 : 0 ≤ at_) (h1 : at_ < n) (hF : at_.toNat = F) (hn : (n : Int) ≤ 140737488351232) (hnc : n ≤ c) (hb : b < w.heap.size) (hlen : 6 ≤ (n : Int) - at_)
    (hx : w.cell? ⟨b, o + F, none⟩ = some (.int .u8 x)) (r1 : Int) (hr1 : 0 ≤ r1 ∧ r1 < 256) (hx1 : w.cell? ⟨b, o + F + 1, none⟩ = some (.int .u8 r1)) (NV : Int) (Hto : Hid (∀ w', (∀ k, w'.cell? ⟨b, k, none⟩ = w.cell? ⟨b, k, none⟩) → b < w'.heap.size → Calls Tryd.prog 50 #[.slice (some ⟨b, o + F, none⟩) 6 (c - F), .int .i64 2, .int .i64 4] w' fun e w'' => e = .returned (.int .i32 NV) ∧ w' = w'')) (Hch : Hid (∀ w, Calls Tryd.prog 51 #[.agg #[.int .i64 op, .int .i64 r1, .int .i64 0, .int .i32 NV, .int .i64 0]] w fun e w' => e = .returned (.int .i64 0) ∧ Below w.heap.size w w')) (Hsh : Hid (∀ w, Calls Tryd.prog 49 #[.int .i64 op] w fun e w' => e = .returned (.int .i64 10) ∧ Below w.heap.size w w'))
    (Hfi : Hid (∀ w, Calls Tryd.prog 47 #[.int .u8 x] w fun e w' => e = .returned (.tuple #[.int .i64 op, .int .i64 0]) ∧ Below w.heap.size w w'))
    (Hsz : Hid (∀ w, Calls Tryd.prog 48 #[.int .i64 op, .int .i64 0] w fun e w' => e = .returned (.int .i64 6) ∧ Below w.heap.size w w')) :
    Calls Tryd.prog 17 #[.slice (some ⟨b, o, none⟩) n c, .int .i64 at_] w fun e w' => e = .returned (.tuple #[.agg #[.int .i64 op, .int .i64 r1, .int .i64 0, .int .i32 NV, .int .i64 0], .int .i64 6, .int .i64 0]) ∧ Below w.heap.size w w' := by
  have g0 : (at_ < 0) = False := by simp; omega
  have g1 : ((n : Int) < at_) = False := by simp; omega
  have g2 : (at_ = (n : Int)) = False := by simp; omega
  have g3 : (at_ == (n : Int)) = false := by simp; omega
  have q3 : (c = F) = False := by simp; omega
  have q2 : (at_ + 6).toNat = F + 6 := by omega
  have hbb : ∀ k, (w.alloc (.cells #[.int .i64 0, .int .i64 0, .int .i64 0, .int .i32 0, .int .i64 0] 25)).cell? ⟨b, k, none⟩ = w.cell? ⟨b, k, none⟩ := fun k => World.cell?_alloc_lt _ _ _ hb
  have q5 : F + 6 ≤ c := by omega
  have q7 : at_ + 6 ≤ c := by omega
  obtain ⟨hr10, hr11⟩ := hr1
  go_enter Tryd.func17, Tryd.ntmps17
  go_wp2_with (first
    | (go_at_call 47; refine (Hfi.out _).mono ?_; rintro e w2 ⟨rfl, hb2⟩; have hz2 : w.heap.size < w2.heap.size := (by have := hb2.size; simp at this; omega); have hR2 := (Blk.new w 25 [.int .i64 0, .int .i64 0, .int .i64 0, .int .i32 0, .int .i64 0]).below hb2 (by simp); have hB2 : Below w.heap.size w w2 := ((Below.refl _ _).alloc (Nat.le_refl _) _).trans (hb2.mono (by simp)))
    | (go_at_call 48; refine (Hsz.out _).mono ?_; rintro e w3 ⟨rfl, hb3⟩; have hz3 := hb3.size; have hR3 := hR2.below hb3 hz2; have hB3 : Below w.heap.size w w3 := hB2.trans (hb3.mono (by omega)))
    | (go_at_call 49; refine (Hsh.out _).mono ?_; rintro e w4 ⟨rfl, hb4⟩; have hz4 : w3.heap.size < w4.heap.size := (by have := hb4.size; simp at this; omega); have hD4 : RefW w w3.heap.size [.int .i64 op, .int .i64 0, .int .i64 0, .int .i32 0, .int .i64 0] w4 := ⟨by omega, (hB3.alloc hB3.size _).trans (hb4.mono (by simp; omega)), (hR3.alloc _).below hb4 (by simp; omega), (Blk.new w3 _ _).below hb4 (by simp)⟩; obtain ⟨i0, i1, i2, i3, i4⟩ := hD4.ins; have v1 := (hD4.byte (k := o + F + 1) hb).trans hx1)
    | ((with_reducible show wpList _ _ _ (Oper.mk none (Op.store _ (Operand.tmp 125) (Operand.tmp 124)) _ _ _ _ :: _) _ _); refine wpList_storeV hD4 rfl 3 (.tmp 125) (.tmp 124) 1 .i64 r1 rfl (by kernel_rfl) (by kernel_rfl) (by simp) (by kernel_rfl) ?_; intro ws5 hD5; obtain ⟨s05, s15, s25, s35, s45⟩ := hD5.ins; have v15 := (hD5.byte (k := o + F + 1) hb).trans hx1)
    | (go_at_call 50; refine (Hto.out _ (fun k => hD5.byte hb) (by have := hD5.2.1.size; omega)).mono ?_; rintro e wt ⟨rfl, rfl⟩)
    | ((with_reducible show wpList _ _ _ (Oper.mk none (Op.store _ (Operand.tmp 128) (Operand.tmp 127)) _ _ _ _ :: _) _ _); refine wpList_storeV hD5 rfl 21 (.tmp 128) (.tmp 127) 3 .i32 NV rfl (by kernel_rfl) (by kernel_rfl) (by simp) (by kernel_rfl) ?_; intro ws6 hD6; obtain ⟨s06, s16, s26, s36, s46⟩ := hD6.ins; have v16 := (hD6.byte (k := o + F + 1) hb).trans hx1)
    | (go_at_call 51; refine (Hch.out _).mono ?_; rintro e w9 ⟨rfl, hb9⟩; have hD9 := hD6.below hb9; obtain ⟨k0, k1, k2, k3, k4⟩ := hD9.ins)
    | ((with_reducible show wpList _ _ _ (Oper.mk none (Op.store _ (Operand.tmp 4) (Operand.tmp 170)) _ _ _ _ :: _) _ _); refine wpList_storeQ hD9.2.1 hD9.2.2.1 rfl 25 (.tmp 4) (.tmp 170) (.int .i64 op) (.int .i64 r1) (.int .i64 0) (.int .i32 NV) (.int .i64 0) rfl (by kernel_rfl) (by kernel_rfl) (by simp [Value.oneCell']) (by kernel_rfl) ?_; intro w8 hB8 hz8; obtain ⟨z0, z1, z2, z3, z4⟩ := hz8))
  refine bodyPost_ret (v := .tuple #[.agg #[.int .i64 op, .int .i64 r1, .int .i64 0, .int .i32 NV, .int .i64 0], .int .i64 6, .int .i64 0]) (by simp [results, Tryd.results17, go_sem, z0, z1, z2, z3, z4]) rfl ⟨rfl, hB8⟩

set_option maxRecDepth 20000 in
set_option maxHeartbeats 1000000 in
theorem rdec_10_0_bad (b o n c F : Nat) (at_ x op : Int) (w : World) (hop : (op == 0) = false) (h0 : 0 ≤ at_) (h1 : at_ < n) (hF : at_.toNat = F) (hn : (n : Int) ≤ 140737488351232) (hnc : n ≤ c) (hb : b < w.heap.size) (hlen : 6 ≤ (n : Int) - at_)
    (hx : w.cell? ⟨b, o + F, none⟩ = some (.int .u8 x)) (r1 : Int) (hr1 : 0 ≤ r1 ∧ r1 < 256) (hx1 : w.cell? ⟨b, o + F + 1, none⟩ = some (.int .u8 r1)) (NV : Int) (Hto : Hid (∀ w', (∀ k, w'.cell? ⟨b, k, none⟩ = w.cell? ⟨b, k, none⟩) → b < w'.heap.size → Calls Tryd.prog 50 #[.slice (some ⟨b, o + F, none⟩) 6 (c - F), .int .i64 2, .int .i64 4] w' fun e w'' => e = .returned (.int .i32 NV) ∧ w' = w'')) (C : Int) (hC : (C != 0) = true) (Hch : Hid (∀ w, Calls Tryd.prog 51 #[.agg #[.int .i64 op, .int .i64 r1, .int .i64 0, .int .i32 NV, .int .i64 0]] w fun e w' => e = .returned (.int .i64 C) ∧ Below w.heap.size w w')) (Hsh : Hid (∀ w, Calls Tryd.prog 49 #[.int .i64 op] w fun e w' => e = .returned (.int .i64 10) ∧ Below w.heap.size w w'))
    (Hfi : Hid (∀ w, Calls Tryd.prog 47 #[.int .u8 x] w fun e w' => e = .returned (.tuple #[.int .i64 op, .int .i64 0]) ∧ Below w.heap.size w w'))
    (Hsz : Hid (∀ w, Calls Tryd.prog 48 #[.int .i64 op, .int .i64 0] w fun e w' => e = .returned (.int .i64 6) ∧ Below w.heap.size w w')) :
    Calls Tryd.prog 17 #[.slice (some ⟨b, o, none⟩) n c, .int .i64 at_] w fun e w' => e = .returned (.tuple #[.agg #[.int .i64 0, .int .i64 0, .int .i64 0, .int .i32 0, .int .i64 0], .int .i64 0, .int .i64 C]) ∧ Below w.heap.size w w' := by
  have g0 : (at_ < 0) = False := by simp; omega
  have g1 : ((n : Int) < at_) = False := by simp; omega
  have g2 : (at_ = (n : Int)) = False := by simp; omega
  have g3 : (at_ == (n : Int)) = false := by simp; omega
  have q3 : (c = F) = False := by simp; omega
  have q2 : (at_ + 6).toNat = F + 6 := by omega
  have hbb : ∀ k, (w.alloc (.cells #[.int .i64 0, .int .i64 0, .int .i64 0, .int .i32 0, .int .i64 0] 25)).cell? ⟨b, k, none⟩ = w.cell? ⟨b, k, none⟩ := fun k => World.cell?_alloc_lt _ _ _ hb
  have q5 : F + 6 ≤ c := by omega
  have q7 : at_ + 6 ≤ c := by omega
  obtain ⟨hr10, hr11⟩ := hr1
  go_enter Tryd.func17, Tryd.ntmps17
  go_wp2_with (first
    | (go_at_call 47; refine (Hfi.out _).mono ?_; rintro e w2 ⟨rfl, hb2⟩; have hz2 : w.heap.size < w2.heap.size := (by have := hb2.size; simp at this; omega); have hR2 := (Blk.new w 25 [.int .i64 0, .int .i64 0, .int .i64 0, .int .i32 0, .int .i64 0]).below hb2 (by simp); have hB2 : Below w.heap.size w w2 := ((Below.refl _ _).alloc (Nat.le_refl _) _).trans (hb2.mono (by simp)))
    | (go_at_call 48; refine (Hsz.out _).mono ?_; rintro e w3 ⟨rfl, hb3⟩; have hz3 := hb3.size; have hR3 := hR2.below hb3 hz2; have hB3 : Below w.heap.size w w3 := hB2.trans (hb3.mono (by omega)))
    | (go_at_call 49; refine (Hsh.out _).mono ?_; rintro e w4 ⟨rfl, hb4⟩; have hz4 : w3.heap.size < w4.heap.size := (by have := hb4.size; simp at this; omega); have hD4 : RefW w w3.heap.size [.int .i64 op, .int .i64 0, .int .i64 0, .int .i32 0, .int .i64 0] w4 := ⟨by omega, (hB3.alloc hB3.size _).trans (hb4.mono (by simp; omega)), (hR3.alloc _).below hb4 (by simp; omega), (Blk.new w3 _ _).below hb4 (by simp)⟩; obtain ⟨i0, i1, i2, i3, i4⟩ := hD4.ins; have v1 := (hD4.byte (k := o + F + 1) hb).trans hx1)
    | ((with_reducible show wpList _ _ _ (Oper.mk none (Op.store _ (Operand.tmp 125) (Operand.tmp 124)) _ _ _ _ :: _) _ _); refine wpList_storeV hD4 rfl 3 (.tmp 125) (.tmp 124) 1 .i64 r1 rfl (by kernel_rfl) (by kernel_rfl) (by simp) (by kernel_rfl) ?_; intro ws5 hD5; obtain ⟨s05, s15, s25, s35, s45⟩ := hD5.ins; have v15 := (hD5.byte (k := o + F + 1) hb).trans hx1)
    | (go_at_call 50; refine (Hto.out _ (fun k => hD5.byte hb) (by have := hD5.2.1.size; omega)).mono ?_; rintro e wt ⟨rfl, rfl⟩)
    | ((with_reducible show wpList _ _ _ (Oper.mk none (Op.store _ (Operand.tmp 128) (Operand.tmp 127)) _ _ _ _ :: _) _ _); refine wpList_storeV hD5 rfl 21 (.tmp 128) (.tmp 127) 3 .i32 NV rfl (by kernel_rfl) (by kernel_rfl) (by simp) (by kernel_rfl) ?_; intro ws6 hD6; obtain ⟨s06, s16, s26, s36, s46⟩ := hD6.ins; have v16 := (hD6.byte (k := o + F + 1) hb).trans hx1)
    | (go_at_call 51; refine (Hch.out _).mono ?_; rintro e w9 ⟨rfl, hb9⟩; have hD9 := hD6.below hb9; obtain ⟨k0, k1, k2, k3, k4⟩ := hD9.ins)
    | ((with_reducible show wpList _ _ _ (Oper.mk none (Op.store _ (Operand.tmp 4) (Operand.tmp 168)) _ _ _ _ :: _) _ _); refine wpList_storeQ hD9.2.1 hD9.2.2.1 rfl 25 (.tmp 4) (.tmp 168) (.int .i64 0) (.int .i64 0) (.int .i64 0) (.int .i32 0) (.int .i64 0) rfl (by kernel_rfl) (by kernel_rfl) (by simp [Value.oneCell']) (by kernel_rfl) ?_; intro w8 hB8 hz8; obtain ⟨z0, z1, z2, z3, z4⟩ := hz8))
  refine bodyPost_ret (v := .tuple #[.agg #[.int .i64 0, .int .i64 0, .int .i64 0, .int .i32 0, .int .i64 0], .int .i64 0, .int .i64 C]) (by simp [results, Tryd.results17, go_sem, z0, z1, z2, z3, z4]) rfl ⟨rfl, hB8⟩

set_option maxRecDepth 20000 in
set_option maxHeartbeats 1000000 in
theorem rdec_10_0_short (b o n c F : Nat) (at_ x op : Int) (w : World) (hop : (op == 0) = false) (h0 : 0 ≤ at_) (h1 : at_ < n) (hF : at_.toNat = F) (hn : (n : Int) ≤ 140737488351232) (hnc : n ≤ c) (hb : b < w.heap.size) (hlen : (n : Int) - at_ < 6)
    (hx : w.cell? ⟨b, o + F, none⟩ = some (.int .u8 x)) 
    (Hfi : Hid (∀ w, Calls Tryd.prog 47 #[.int .u8 x] w fun e w' => e = .returned (.tuple #[.int .i64 op, .int .i64 0]) ∧ Below w.heap.size w w'))
    (Hsz : Hid (∀ w, Calls Tryd.prog 48 #[.int .i64 op, .int .i64 0] w fun e w' => e = .returned (.int .i64 6) ∧ Below w.heap.size w w')) :
    Calls Tryd.prog 17 #[.slice (some ⟨b, o, none⟩) n c, .int .i64 at_] w fun e w' => e = .returned (.tuple #[.agg #[.int .i64 0, .int .i64 0, .int .i64 0, .int .i32 0, .int .i64 0], .int .i64 0, .int .i64 10]) ∧ Below w.heap.size w w' := by
  have g0 : (at_ < 0) = False := by simp; omega
  have g1 : ((n : Int) < at_) = False := by simp; omega
  have g2 : (at_ = (n : Int)) = False := by simp; omega
  have g3 : (at_ == (n : Int)) = false := by simp; omega
  have q3 : (c = F) = False := by simp; omega
  have q2 : (at_ + 6).toNat = F + 6 := by omega
  have hbb : ∀ k, (w.alloc (.cells #[.int .i64 0, .int .i64 0, .int .i64 0, .int .i32 0, .int .i64 0] 25)).cell? ⟨b, k, none⟩ = w.cell? ⟨b, k, none⟩ := fun k => World.cell?_alloc_lt _ _ _ hb
  go_enter Tryd.func17, Tryd.ntmps17
  go_wp2_with (first
    | (go_at_call 47; refine (Hfi.out _).mono ?_; rintro e w2 ⟨rfl, hb2⟩; have hz2 : w.heap.size < w2.heap.size := (by have := hb2.size; simp at this; omega); have hR2 := (Blk.new w 25 [.int .i64 0, .int .i64 0, .int .i64 0, .int .i32 0, .int .i64 0]).below hb2 (by simp); have hB2 : Below w.heap.size w w2 := ((Below.refl _ _).alloc (Nat.le_refl _) _).trans (hb2.mono (by simp)))
    | (go_at_call 48; refine (Hsz.out _).mono ?_; rintro e w3 ⟨rfl, hb3⟩; have hz3 := hb3.size; have hR3 := hR2.below hb3 hz2; have hB3 : Below w.heap.size w w3 := hB2.trans (hb3.mono (by omega)))
    | ((with_reducible show wpList _ _ _ (Oper.mk none (Op.store _ (Operand.tmp 4) (Operand.tmp 47)) _ _ _ _ :: _) _ _); refine wpList_storeQ hB3 hR3 rfl 25 (.tmp 4) (.tmp 47) (.int .i64 0) (.int .i64 0) (.int .i64 0) (.int .i32 0) (.int .i64 0) rfl (by kernel_rfl) (by kernel_rfl) (by simp [Value.oneCell']) (by kernel_rfl) ?_; intro w8 hB8 hz8; obtain ⟨z0, z1, z2, z3, z4⟩ := hz8))
  refine bodyPost_ret (v := .tuple #[.agg #[.int .i64 0, .int .i64 0, .int .i64 0, .int .i32 0, .int .i64 0], .int .i64 0, .int .i64 10]) (by simp [results, Tryd.results17, go_sem, z0, z1, z2, z3, z4]) rfl ⟨rfl, hB8⟩

set_option maxRecDepth 20000 in
set_option maxHeartbeats 1000000 in
theorem rdec_11_0_ok (b o n c F : Nat) (at_ x op : Int) (w : World) (hop : (op == 0) = false) (h0 : 0 ≤ at_) (h1 : at_ < n) (hF : at_.toNat = F) (hn : (n : Int) ≤ 140737488351232) (hnc : n ≤ c) (hb : b < w.heap.size) (hlen : 4 ≤ (n : Int) - at_)
    (hx : w.cell? ⟨b, o + F, none⟩ = some (.int .u8 x)) (r1 : Int) (hr1 : 0 ≤ r1 ∧ r1 < 256) (hx1 : w.cell? ⟨b, o + F + 1, none⟩ = some (.int .u8 r1)) (r2 : Int) (hr2 : 0 ≤ r2 ∧ r2 < 256) (hx2 : w.cell? ⟨b, o + F + 2, none⟩ = some (.int .u8 r2)) (r3 : Int) (hr3 : 0 ≤ r3 ∧ r3 < 256) (hx3 : w.cell? ⟨b, o + F + 3, none⟩ = some (.int .u8 r3)) (Hch : Hid (∀ w, Calls Tryd.prog 51 #[.agg #[.int .i64 op, .int .i64 r1, .int .i64 0, .int .i32 (r2 + 256 * r3), .int .i64 0]] w fun e w' => e = .returned (.int .i64 0) ∧ Below w.heap.size w w')) (Hsh : Hid (∀ w, Calls Tryd.prog 49 #[.int .i64 op] w fun e w' => e = .returned (.int .i64 11) ∧ Below w.heap.size w w'))
    (Hfi : Hid (∀ w, Calls Tryd.prog 47 #[.int .u8 x] w fun e w' => e = .returned (.tuple #[.int .i64 op, .int .i64 0]) ∧ Below w.heap.size w w'))
    (Hsz : Hid (∀ w, Calls Tryd.prog 48 #[.int .i64 op, .int .i64 0] w fun e w' => e = .returned (.int .i64 4) ∧ Below w.heap.size w w')) :
    Calls Tryd.prog 17 #[.slice (some ⟨b, o, none⟩) n c, .int .i64 at_] w fun e w' => e = .returned (.tuple #[.agg #[.int .i64 op, .int .i64 r1, .int .i64 0, .int .i32 (r2 + 256 * r3), .int .i64 0], .int .i64 4, .int .i64 0]) ∧ Below w.heap.size w w' := by
  have g0 : (at_ < 0) = False := by simp; omega
  have g1 : ((n : Int) < at_) = False := by simp; omega
  have g2 : (at_ = (n : Int)) = False := by simp; omega
  have g3 : (at_ == (n : Int)) = false := by simp; omega
  have q3 : (c = F) = False := by simp; omega
  have q2 : (at_ + 4).toNat = F + 4 := by omega
  have hbb : ∀ k, (w.alloc (.cells #[.int .i64 0, .int .i64 0, .int .i64 0, .int .i32 0, .int .i64 0] 25)).cell? ⟨b, k, none⟩ = w.cell? ⟨b, k, none⟩ := fun k => World.cell?_alloc_lt _ _ _ hb
  have q5 : F + 4 ≤ c := by omega
  have q7 : at_ + 4 ≤ c := by omega
  obtain ⟨hr10, hr11⟩ := hr1
  obtain ⟨hr20, hr21⟩ := hr2
  obtain ⟨hr30, hr31⟩ := hr3
  have hv2 : IntKind.i32.wrap r2 = r2 := wrap32_small (by omega) (by omega)
  have hv3 : IntKind.i32.wrap r3 = r3 := wrap32_small (by omega) (by omega)
  have hv4 : IntKind.i32.wrap (256 * r3) = 256 * r3 := by simp [IntKind.wrap, IntKind.bits, IntKind.signed]; omega
  have hv5 : IntKind.i32.wrap (r2 + 256 * r3) = r2 + 256 * r3 := by simp [IntKind.wrap, IntKind.bits, IntKind.signed]; omega
  go_enter Tryd.func17, Tryd.ntmps17
  go_wp2_with (first
    | (go_at_call 47; refine (Hfi.out _).mono ?_; rintro e w2 ⟨rfl, hb2⟩; have hz2 : w.heap.size < w2.heap.size := (by have := hb2.size; simp at this; omega); have hR2 := (Blk.new w 25 [.int .i64 0, .int .i64 0, .int .i64 0, .int .i32 0, .int .i64 0]).below hb2 (by simp); have hB2 : Below w.heap.size w w2 := ((Below.refl _ _).alloc (Nat.le_refl _) _).trans (hb2.mono (by simp)))
    | (go_at_call 48; refine (Hsz.out _).mono ?_; rintro e w3 ⟨rfl, hb3⟩; have hz3 := hb3.size; have hR3 := hR2.below hb3 hz2; have hB3 : Below w.heap.size w w3 := hB2.trans (hb3.mono (by omega)))
    | (go_at_call 49; refine (Hsh.out _).mono ?_; rintro e w4 ⟨rfl, hb4⟩; have hz4 : w3.heap.size < w4.heap.size := (by have := hb4.size; simp at this; omega); have hD4 : RefW w w3.heap.size [.int .i64 op, .int .i64 0, .int .i64 0, .int .i32 0, .int .i64 0] w4 := ⟨by omega, (hB3.alloc hB3.size _).trans (hb4.mono (by simp; omega)), (hR3.alloc _).below hb4 (by simp; omega), (Blk.new w3 _ _).below hb4 (by simp)⟩; obtain ⟨i0, i1, i2, i3, i4⟩ := hD4.ins; have v1 := (hD4.byte (k := o + F + 1) hb).trans hx1; have v2 := (hD4.byte (k := o + F + 2) hb).trans hx2; have v3 := (hD4.byte (k := o + F + 3) hb).trans hx3)
    | ((with_reducible show wpList _ _ _ (Oper.mk none (Op.store _ (Operand.tmp 135) (Operand.tmp 134)) _ _ _ _ :: _) _ _); refine wpList_storeV hD4 rfl 3 (.tmp 135) (.tmp 134) 1 .i64 r1 rfl (by kernel_rfl) (by kernel_rfl) (by simp) (by kernel_rfl) ?_; intro ws5 hD5; obtain ⟨s05, s15, s25, s35, s45⟩ := hD5.ins; have v15 := (hD5.byte (k := o + F + 1) hb).trans hx1; have v25 := (hD5.byte (k := o + F + 2) hb).trans hx2; have v35 := (hD5.byte (k := o + F + 3) hb).trans hx3))
  refine held_start (ops' := ref36) (l0 := #[false, false, false, false, false, false, false, false, false, false, false, false]) (S := fun w' => w'.cell? ⟨b, o + F + 2, none⟩ = some (.int .u8 r2) ∧ w'.cell? ⟨b, o + F + 3, none⟩ = some (.int .u8 r3)) (by kernel_rfl) (by kernel_rfl) (by kernel_rfl) (by kernel_rfl) ⟨(hD5.byte (k := o + F + 2) hb).trans hx2, (hD5.byte (k := o + F + 3) hb).trans hx3⟩ (fun R hR => ?_)
  have hDd := hD5.drew
  (refine held_take (v := ?_) (d := some 136) 0 (by kernel_rfl) (by kernel_rfl) rfl ?_ ?_
   rotate_left
   · intro w hSw
     conv in opOf _ _ => whnf
     (try obtain ⟨hs1, hs2⟩ := hSw)
     go_simp
     try (with_reducible rfl)
   try simp only [Act.put, List.setIfInBounds_toArray, List.set_cons_zero, List.set_cons_succ])
  (refine held_take (v := ?_) (d := some 137) 1 (by kernel_rfl) (by kernel_rfl) rfl ?_ ?_
   rotate_left
   · intro w hSw
     conv in opOf _ _ => whnf
     (try obtain ⟨hs1, hs2⟩ := hSw)
     go_simp
     try (with_reducible rfl)
   try simp only [Act.put, List.setIfInBounds_toArray, List.set_cons_zero, List.set_cons_succ])
  (refine held_take (v := ?_) (d := some 138) 2 (by kernel_rfl) (by kernel_rfl) rfl ?_ ?_
   rotate_left
   · intro w hSw
     conv in opOf _ _ => whnf
     (try obtain ⟨hs1, hs2⟩ := hSw)
     go_simp
     try (with_reducible rfl)
   try simp only [Act.put, List.setIfInBounds_toArray, List.set_cons_zero, List.set_cons_succ])
  (refine held_take (v := ?_) (d := some 139) 3 (by kernel_rfl) (by kernel_rfl) rfl ?_ ?_
   rotate_left
   · intro w hSw
     conv in opOf _ _ => whnf
     (try obtain ⟨hs1, hs2⟩ := hSw)
     go_simp
     try simp only [hv2]
     try (with_reducible rfl)
   try simp only [Act.put, List.setIfInBounds_toArray, List.set_cons_zero, List.set_cons_succ])
  (refine held_take (v := ?_) (d := some 140) 4 (by kernel_rfl) (by kernel_rfl) rfl ?_ ?_
   rotate_left
   · intro w hSw
     conv in opOf _ _ => whnf
     (try obtain ⟨hs1, hs2⟩ := hSw)
     go_simp
     try (with_reducible rfl)
   try simp only [Act.put, List.setIfInBounds_toArray, List.set_cons_zero, List.set_cons_succ])
  (refine held_take (v := ?_) (d := some 141) 5 (by kernel_rfl) (by kernel_rfl) rfl ?_ ?_
   rotate_left
   · intro w hSw
     conv in opOf _ _ => whnf
     (try obtain ⟨hs1, hs2⟩ := hSw)
     go_simp
     try (with_reducible rfl)
   try simp only [Act.put, List.setIfInBounds_toArray, List.set_cons_zero, List.set_cons_succ])
  (refine held_take (v := ?_) (d := some 142) 6 (by kernel_rfl) (by kernel_rfl) rfl ?_ ?_
   rotate_left
   · intro w hSw
     conv in opOf _ _ => whnf
     (try obtain ⟨hs1, hs2⟩ := hSw)
     go_simp
     try (with_reducible rfl)
   try simp only [Act.put, List.setIfInBounds_toArray, List.set_cons_zero, List.set_cons_succ])
  (refine held_take (v := ?_) (d := some 143) 7 (by kernel_rfl) (by kernel_rfl) rfl ?_ ?_
   rotate_left
   · intro w hSw
     conv in opOf _ _ => whnf
     (try obtain ⟨hs1, hs2⟩ := hSw)
     go_simp
     try simp only [hv3]
     try (with_reducible rfl)
   try simp only [Act.put, List.setIfInBounds_toArray, List.set_cons_zero, List.set_cons_succ])
  (refine held_take (v := ?_) (d := some 144) 8 (by kernel_rfl) (by kernel_rfl) rfl ?_ ?_
   rotate_left
   · intro w hSw
     conv in opOf _ _ => whnf
     (try obtain ⟨hs1, hs2⟩ := hSw)
     go_simp
     try simp only [hv4]
     try (with_reducible rfl)
   try simp only [Act.put, List.setIfInBounds_toArray, List.set_cons_zero, List.set_cons_succ])
  (refine held_take (v := ?_) (d := some 145) 9 (by kernel_rfl) (by kernel_rfl) rfl ?_ ?_
   rotate_left
   · intro w hSw
     conv in opOf _ _ => whnf
     (try obtain ⟨hs1, hs2⟩ := hSw)
     go_simp
     try simp only [hv5]
     try (with_reducible rfl)
   try simp only [Act.put, List.setIfInBounds_toArray, List.set_cons_zero, List.set_cons_succ])
  (refine held_take (v := ?_) (d := some 146) 10 (by kernel_rfl) (by kernel_rfl) rfl ?_ ?_
   rotate_left
   · intro w hSw
     conv in opOf _ _ => whnf
     (try obtain ⟨hs1, hs2⟩ := hSw)
     go_simp
     try (with_reducible rfl)
   try simp only [Act.put, List.setIfInBounds_toArray, List.set_cons_zero, List.set_cons_succ])
  (refine held_one 11 (by kernel_rfl) (by kernel_rfl) (held_storeV hDd (d := none) 11 (by kernel_rfl) (by kernel_rfl) rfl 21 (.tmp 146) (.tmp 145) 3 .i32 (r2 + 256 * r3) (by kernel_rfl) (by kernel_rfl) (by kernel_rfl) (by simp) (by kernel_rfl) (fun wz hDz => ⟨⟨(hDz.byte (k := o + F + 2) hb).trans hx2, (hDz.byte (k := o + F + 3) hb).trans hx3⟩, ?_⟩))
   try simp only [Act.put, List.setIfInBounds_toArray, List.set_cons_zero, List.set_cons_succ])
  refine held_done (by kernel_rfl) (fun hS => hR.out _ _ ?_)
  obtain ⟨m0, m1, m2, m3, m4⟩ := hDz.ins
  go_wp2_with (first
    | (go_at_call 51; refine (Hch.out _).mono ?_; rintro e w9 ⟨rfl, hb9⟩; have hD9 := hDz.below hb9; obtain ⟨k0, k1, k2, k3, k4⟩ := hD9.ins)
    | ((with_reducible show wpList _ _ _ (Oper.mk none (Op.store _ (Operand.tmp 4) (Operand.tmp 170)) _ _ _ _ :: _) _ _); refine wpList_storeQ hD9.2.1 hD9.2.2.1 rfl 25 (.tmp 4) (.tmp 170) (.int .i64 op) (.int .i64 r1) (.int .i64 0) (.int .i32 (r2 + 256 * r3)) (.int .i64 0) rfl (by kernel_rfl) (by kernel_rfl) (by simp [Value.oneCell']) (by kernel_rfl) ?_; intro w8 hB8 hz8; obtain ⟨z0, z1, z2, z3, z4⟩ := hz8))
  refine bodyPost_ret (v := .tuple #[.agg #[.int .i64 op, .int .i64 r1, .int .i64 0, .int .i32 (r2 + 256 * r3), .int .i64 0], .int .i64 4, .int .i64 0]) (by simp [results, Tryd.results17, go_sem, z0, z1, z2, z3, z4]) rfl ⟨rfl, hB8⟩

set_option maxRecDepth 20000 in
set_option maxHeartbeats 1000000 in
theorem rdec_11_0_bad (b o n c F : Nat) (at_ x op : Int) (w : World) (hop : (op == 0) = false) (h0 : 0 ≤ at_) (h1 : at_ < n) (hF : at_.toNat = F) (hn : (n : Int) ≤ 140737488351232) (hnc : n ≤ c) (hb : b < w.heap.size) (hlen : 4 ≤ (n : Int) - at_)
    (hx : w.cell? ⟨b, o + F, none⟩ = some (.int .u8 x)) (r1 : Int) (hr1 : 0 ≤ r1 ∧ r1 < 256) (hx1 : w.cell? ⟨b, o + F + 1, none⟩ = some (.int .u8 r1)) (r2 : Int) (hr2 : 0 ≤ r2 ∧ r2 < 256) (hx2 : w.cell? ⟨b, o + F + 2, none⟩ = some (.int .u8 r2)) (r3 : Int) (hr3 : 0 ≤ r3 ∧ r3 < 256) (hx3 : w.cell? ⟨b, o + F + 3, none⟩ = some (.int .u8 r3)) (C : Int) (hC : (C != 0) = true) (Hch : Hid (∀ w, Calls Tryd.prog 51 #[.agg #[.int .i64 op, .int .i64 r1, .int .i64 0, .int .i32 (r2 + 256 * r3), .int .i64 0]] w fun e w' => e = .returned (.int .i64 C) ∧ Below w.heap.size w w')) (Hsh : Hid (∀ w, Calls Tryd.prog 49 #[.int .i64 op] w fun e w' => e = .returned (.int .i64 11) ∧ Below w.heap.size w w'))
    (Hfi : Hid (∀ w, Calls Tryd.prog 47 #[.int .u8 x] w fun e w' => e = .returned (.tuple #[.int .i64 op, .int .i64 0]) ∧ Below w.heap.size w w'))
    (Hsz : Hid (∀ w, Calls Tryd.prog 48 #[.int .i64 op, .int .i64 0] w fun e w' => e = .returned (.int .i64 4) ∧ Below w.heap.size w w')) :
    Calls Tryd.prog 17 #[.slice (some ⟨b, o, none⟩) n c, .int .i64 at_] w fun e w' => e = .returned (.tuple #[.agg #[.int .i64 0, .int .i64 0, .int .i64 0, .int .i32 0, .int .i64 0], .int .i64 0, .int .i64 C]) ∧ Below w.heap.size w w' := by
  have g0 : (at_ < 0) = False := by simp; omega
  have g1 : ((n : Int) < at_) = False := by simp; omega
  have g2 : (at_ = (n : Int)) = False := by simp; omega
  have g3 : (at_ == (n : Int)) = false := by simp; omega
  have q3 : (c = F) = False := by simp; omega
  have q2 : (at_ + 4).toNat = F + 4 := by omega
  have hbb : ∀ k, (w.alloc (.cells #[.int .i64 0, .int .i64 0, .int .i64 0, .int .i32 0, .int .i64 0] 25)).cell? ⟨b, k, none⟩ = w.cell? ⟨b, k, none⟩ := fun k => World.cell?_alloc_lt _ _ _ hb
  have q5 : F + 4 ≤ c := by omega
  have q7 : at_ + 4 ≤ c := by omega
  obtain ⟨hr10, hr11⟩ := hr1
  obtain ⟨hr20, hr21⟩ := hr2
  obtain ⟨hr30, hr31⟩ := hr3
  have hv2 : IntKind.i32.wrap r2 = r2 := wrap32_small (by omega) (by omega)
  have hv3 : IntKind.i32.wrap r3 = r3 := wrap32_small (by omega) (by omega)
  have hv4 : IntKind.i32.wrap (256 * r3) = 256 * r3 := by simp [IntKind.wrap, IntKind.bits, IntKind.signed]; omega
  have hv5 : IntKind.i32.wrap (r2 + 256 * r3) = r2 + 256 * r3 := by simp [IntKind.wrap, IntKind.bits, IntKind.signed]; omega
  go_enter Tryd.func17, Tryd.ntmps17
  go_wp2_with (first
    | (go_at_call 47; refine (Hfi.out _).mono ?_; rintro e w2 ⟨rfl, hb2⟩; have hz2 : w.heap.size < w2.heap.size := (by have := hb2.size; simp at this; omega); have hR2 := (Blk.new w 25 [.int .i64 0, .int .i64 0, .int .i64 0, .int .i32 0, .int .i64 0]).below hb2 (by simp); have hB2 : Below w.heap.size w w2 := ((Below.refl _ _).alloc (Nat.le_refl _) _).trans (hb2.mono (by simp)))
    | (go_at_call 48; refine (Hsz.out _).mono ?_; rintro e w3 ⟨rfl, hb3⟩; have hz3 := hb3.size; have hR3 := hR2.below hb3 hz2; have hB3 : Below w.heap.size w w3 := hB2.trans (hb3.mono (by omega)))
    | (go_at_call 49; refine (Hsh.out _).mono ?_; rintro e w4 ⟨rfl, hb4⟩; have hz4 : w3.heap.size < w4.heap.size := (by have := hb4.size; simp at this; omega); have hD4 : RefW w w3.heap.size [.int .i64 op, .int .i64 0, .int .i64 0, .int .i32 0, .int .i64 0] w4 := ⟨by omega, (hB3.alloc hB3.size _).trans (hb4.mono (by simp; omega)), (hR3.alloc _).below hb4 (by simp; omega), (Blk.new w3 _ _).below hb4 (by simp)⟩; obtain ⟨i0, i1, i2, i3, i4⟩ := hD4.ins; have v1 := (hD4.byte (k := o + F + 1) hb).trans hx1; have v2 := (hD4.byte (k := o + F + 2) hb).trans hx2; have v3 := (hD4.byte (k := o + F + 3) hb).trans hx3)
    | ((with_reducible show wpList _ _ _ (Oper.mk none (Op.store _ (Operand.tmp 135) (Operand.tmp 134)) _ _ _ _ :: _) _ _); refine wpList_storeV hD4 rfl 3 (.tmp 135) (.tmp 134) 1 .i64 r1 rfl (by kernel_rfl) (by kernel_rfl) (by simp) (by kernel_rfl) ?_; intro ws5 hD5; obtain ⟨s05, s15, s25, s35, s45⟩ := hD5.ins; have v15 := (hD5.byte (k := o + F + 1) hb).trans hx1; have v25 := (hD5.byte (k := o + F + 2) hb).trans hx2; have v35 := (hD5.byte (k := o + F + 3) hb).trans hx3))
  refine held_start (ops' := ref36) (l0 := #[false, false, false, false, false, false, false, false, false, false, false, false]) (S := fun w' => w'.cell? ⟨b, o + F + 2, none⟩ = some (.int .u8 r2) ∧ w'.cell? ⟨b, o + F + 3, none⟩ = some (.int .u8 r3)) (by kernel_rfl) (by kernel_rfl) (by kernel_rfl) (by kernel_rfl) ⟨(hD5.byte (k := o + F + 2) hb).trans hx2, (hD5.byte (k := o + F + 3) hb).trans hx3⟩ (fun R hR => ?_)
  have hDd := hD5.drew
  (refine held_take (v := ?_) (d := some 136) 0 (by kernel_rfl) (by kernel_rfl) rfl ?_ ?_
   rotate_left
   · intro w hSw
     conv in opOf _ _ => whnf
     (try obtain ⟨hs1, hs2⟩ := hSw)
     go_simp
     try (with_reducible rfl)
   try simp only [Act.put, List.setIfInBounds_toArray, List.set_cons_zero, List.set_cons_succ])
  (refine held_take (v := ?_) (d := some 137) 1 (by kernel_rfl) (by kernel_rfl) rfl ?_ ?_
   rotate_left
   · intro w hSw
     conv in opOf _ _ => whnf
     (try obtain ⟨hs1, hs2⟩ := hSw)
     go_simp
     try (with_reducible rfl)
   try simp only [Act.put, List.setIfInBounds_toArray, List.set_cons_zero, List.set_cons_succ])
  (refine held_take (v := ?_) (d := some 138) 2 (by kernel_rfl) (by kernel_rfl) rfl ?_ ?_
   rotate_left
   · intro w hSw
     conv in opOf _ _ => whnf
     (try obtain ⟨hs1, hs2⟩ := hSw)
     go_simp
     try (with_reducible rfl)
   try simp only [Act.put, List.setIfInBounds_toArray, List.set_cons_zero, List.set_cons_succ])
  (refine held_take (v := ?_) (d := some 139) 3 (by kernel_rfl) (by kernel_rfl) rfl ?_ ?_
   rotate_left
   · intro w hSw
     conv in opOf _ _ => whnf
     (try obtain ⟨hs1, hs2⟩ := hSw)
     go_simp
     try simp only [hv2]
     try (with_reducible rfl)
   try simp only [Act.put, List.setIfInBounds_toArray, List.set_cons_zero, List.set_cons_succ])
  (refine held_take (v := ?_) (d := some 140) 4 (by kernel_rfl) (by kernel_rfl) rfl ?_ ?_
   rotate_left
   · intro w hSw
     conv in opOf _ _ => whnf
     (try obtain ⟨hs1, hs2⟩ := hSw)
     go_simp
     try (with_reducible rfl)
   try simp only [Act.put, List.setIfInBounds_toArray, List.set_cons_zero, List.set_cons_succ])
  (refine held_take (v := ?_) (d := some 141) 5 (by kernel_rfl) (by kernel_rfl) rfl ?_ ?_
   rotate_left
   · intro w hSw
     conv in opOf _ _ => whnf
     (try obtain ⟨hs1, hs2⟩ := hSw)
     go_simp
     try (with_reducible rfl)
   try simp only [Act.put, List.setIfInBounds_toArray, List.set_cons_zero, List.set_cons_succ])
  (refine held_take (v := ?_) (d := some 142) 6 (by kernel_rfl) (by kernel_rfl) rfl ?_ ?_
   rotate_left
   · intro w hSw
     conv in opOf _ _ => whnf
     (try obtain ⟨hs1, hs2⟩ := hSw)
     go_simp
     try (with_reducible rfl)
   try simp only [Act.put, List.setIfInBounds_toArray, List.set_cons_zero, List.set_cons_succ])
  (refine held_take (v := ?_) (d := some 143) 7 (by kernel_rfl) (by kernel_rfl) rfl ?_ ?_
   rotate_left
   · intro w hSw
     conv in opOf _ _ => whnf
     (try obtain ⟨hs1, hs2⟩ := hSw)
     go_simp
     try simp only [hv3]
     try (with_reducible rfl)
   try simp only [Act.put, List.setIfInBounds_toArray, List.set_cons_zero, List.set_cons_succ])
  (refine held_take (v := ?_) (d := some 144) 8 (by kernel_rfl) (by kernel_rfl) rfl ?_ ?_
   rotate_left
   · intro w hSw
     conv in opOf _ _ => whnf
     (try obtain ⟨hs1, hs2⟩ := hSw)
     go_simp
     try simp only [hv4]
     try (with_reducible rfl)
   try simp only [Act.put, List.setIfInBounds_toArray, List.set_cons_zero, List.set_cons_succ])
  (refine held_take (v := ?_) (d := some 145) 9 (by kernel_rfl) (by kernel_rfl) rfl ?_ ?_
   rotate_left
   · intro w hSw
     conv in opOf _ _ => whnf
     (try obtain ⟨hs1, hs2⟩ := hSw)
     go_simp
     try simp only [hv5]
     try (with_reducible rfl)
   try simp only [Act.put, List.setIfInBounds_toArray, List.set_cons_zero, List.set_cons_succ])
  (refine held_take (v := ?_) (d := some 146) 10 (by kernel_rfl) (by kernel_rfl) rfl ?_ ?_
   rotate_left
   · intro w hSw
     conv in opOf _ _ => whnf
     (try obtain ⟨hs1, hs2⟩ := hSw)
     go_simp
     try (with_reducible rfl)
   try simp only [Act.put, List.setIfInBounds_toArray, List.set_cons_zero, List.set_cons_succ])
  (refine held_one 11 (by kernel_rfl) (by kernel_rfl) (held_storeV hDd (d := none) 11 (by kernel_rfl) (by kernel_rfl) rfl 21 (.tmp 146) (.tmp 145) 3 .i32 (r2 + 256 * r3) (by kernel_rfl) (by kernel_rfl) (by kernel_rfl) (by simp) (by kernel_rfl) (fun wz hDz => ⟨⟨(hDz.byte (k := o + F + 2) hb).trans hx2, (hDz.byte (k := o + F + 3) hb).trans hx3⟩, ?_⟩))
   try simp only [Act.put, List.setIfInBounds_toArray, List.set_cons_zero, List.set_cons_succ])
  refine held_done (by kernel_rfl) (fun hS => hR.out _ _ ?_)
  obtain ⟨m0, m1, m2, m3, m4⟩ := hDz.ins
  go_wp2_with (first
    | (go_at_call 51; refine (Hch.out _).mono ?_; rintro e w9 ⟨rfl, hb9⟩; have hD9 := hDz.below hb9; obtain ⟨k0, k1, k2, k3, k4⟩ := hD9.ins)
    | ((with_reducible show wpList _ _ _ (Oper.mk none (Op.store _ (Operand.tmp 4) (Operand.tmp 168)) _ _ _ _ :: _) _ _); refine wpList_storeQ hD9.2.1 hD9.2.2.1 rfl 25 (.tmp 4) (.tmp 168) (.int .i64 0) (.int .i64 0) (.int .i64 0) (.int .i32 0) (.int .i64 0) rfl (by kernel_rfl) (by kernel_rfl) (by simp [Value.oneCell']) (by kernel_rfl) ?_; intro w8 hB8 hz8; obtain ⟨z0, z1, z2, z3, z4⟩ := hz8))
  refine bodyPost_ret (v := .tuple #[.agg #[.int .i64 0, .int .i64 0, .int .i64 0, .int .i32 0, .int .i64 0], .int .i64 0, .int .i64 C]) (by simp [results, Tryd.results17, go_sem, z0, z1, z2, z3, z4]) rfl ⟨rfl, hB8⟩

set_option maxRecDepth 20000 in
set_option maxHeartbeats 1000000 in
theorem rdec_11_0_short (b o n c F : Nat) (at_ x op : Int) (w : World) (hop : (op == 0) = false) (h0 : 0 ≤ at_) (h1 : at_ < n) (hF : at_.toNat = F) (hn : (n : Int) ≤ 140737488351232) (hnc : n ≤ c) (hb : b < w.heap.size) (hlen : (n : Int) - at_ < 4)
    (hx : w.cell? ⟨b, o + F, none⟩ = some (.int .u8 x)) 
    (Hfi : Hid (∀ w, Calls Tryd.prog 47 #[.int .u8 x] w fun e w' => e = .returned (.tuple #[.int .i64 op, .int .i64 0]) ∧ Below w.heap.size w w'))
    (Hsz : Hid (∀ w, Calls Tryd.prog 48 #[.int .i64 op, .int .i64 0] w fun e w' => e = .returned (.int .i64 4) ∧ Below w.heap.size w w')) :
    Calls Tryd.prog 17 #[.slice (some ⟨b, o, none⟩) n c, .int .i64 at_] w fun e w' => e = .returned (.tuple #[.agg #[.int .i64 0, .int .i64 0, .int .i64 0, .int .i32 0, .int .i64 0], .int .i64 0, .int .i64 10]) ∧ Below w.heap.size w w' := by
  have g0 : (at_ < 0) = False := by simp; omega
  have g1 : ((n : Int) < at_) = False := by simp; omega
  have g2 : (at_ = (n : Int)) = False := by simp; omega
  have g3 : (at_ == (n : Int)) = false := by simp; omega
  have q3 : (c = F) = False := by simp; omega
  have q2 : (at_ + 4).toNat = F + 4 := by omega
  have hbb : ∀ k, (w.alloc (.cells #[.int .i64 0, .int .i64 0, .int .i64 0, .int .i32 0, .int .i64 0] 25)).cell? ⟨b, k, none⟩ = w.cell? ⟨b, k, none⟩ := fun k => World.cell?_alloc_lt _ _ _ hb
  go_enter Tryd.func17, Tryd.ntmps17
  go_wp2_with (first
    | (go_at_call 47; refine (Hfi.out _).mono ?_; rintro e w2 ⟨rfl, hb2⟩; have hz2 : w.heap.size < w2.heap.size := (by have := hb2.size; simp at this; omega); have hR2 := (Blk.new w 25 [.int .i64 0, .int .i64 0, .int .i64 0, .int .i32 0, .int .i64 0]).below hb2 (by simp); have hB2 : Below w.heap.size w w2 := ((Below.refl _ _).alloc (Nat.le_refl _) _).trans (hb2.mono (by simp)))
    | (go_at_call 48; refine (Hsz.out _).mono ?_; rintro e w3 ⟨rfl, hb3⟩; have hz3 := hb3.size; have hR3 := hR2.below hb3 hz2; have hB3 : Below w.heap.size w w3 := hB2.trans (hb3.mono (by omega)))
    | ((with_reducible show wpList _ _ _ (Oper.mk none (Op.store _ (Operand.tmp 4) (Operand.tmp 47)) _ _ _ _ :: _) _ _); refine wpList_storeQ hB3 hR3 rfl 25 (.tmp 4) (.tmp 47) (.int .i64 0) (.int .i64 0) (.int .i64 0) (.int .i32 0) (.int .i64 0) rfl (by kernel_rfl) (by kernel_rfl) (by simp [Value.oneCell']) (by kernel_rfl) ?_; intro w8 hB8 hz8; obtain ⟨z0, z1, z2, z3, z4⟩ := hz8))
  refine bodyPost_ret (v := .tuple #[.agg #[.int .i64 0, .int .i64 0, .int .i64 0, .int .i32 0, .int .i64 0], .int .i64 0, .int .i64 10]) (by simp [results, Tryd.results17, go_sem, z0, z1, z2, z3, z4]) rfl ⟨rfl, hB8⟩
end Go.Proofs.YthcjnkakfpmpbaaDoor
