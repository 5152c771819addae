/- The walk of the reference's Decode, by shapes: D15. Conditions: none. -/
import Derived.Test.YthcjnkakfpmpbaaDoorD14
namespace Go.Proofs.YthcjnkakfpmpbaaDoor
open Go.RowKit
set_option linter.unusedVariables false
set_option linter.unusedSimpArgs false

set_option maxRecDepth 20000 in
set_option maxHeartbeats 1000000 in
theorem rdec_1_0_ok (b o n c F : Nat) (at_ x op : Int) (w : World) (hop : (op == 0) = false) (h0 : 0 ≤ at_) (h1 : at_ < n) (hF : at_.toNat = F) (hn : (n : Int) ≤ 140737488351232) (hnc : n ≤ c) (hb : b < w.heap.size) (hlen : 1 ≤ (n : Int) - at_)
    (hx : w.cell? ⟨b, o + F, none⟩ = some (.int .u8 x)) (Hch : Hid (∀ w, Calls Tryd.prog 51 #[.agg #[.int .i64 op, .int .i64 0, .int .i64 0, .int .i32 0, .int .i64 0]] w fun e w' => e = .returned (.int .i64 0) ∧ Below w.heap.size w w')) (Hsh : Hid (∀ w, Calls Tryd.prog 49 #[.int .i64 op] w fun e w' => e = .returned (.int .i64 1) ∧ Below w.heap.size w w'))
    (Hfi : Hid (∀ w, Calls Tryd.prog 47 #[.int .u8 x] w fun e w' => e = .returned (.tuple #[.int .i64 op, .int .i64 0]) ∧ Below w.heap.size w w'))
    (Hsz : Hid (∀ w, Calls Tryd.prog 48 #[.int .i64 op, .int .i64 0] w fun e w' => e = .returned (.int .i64 1) ∧ Below w.heap.size w w')) :
    Calls Tryd.prog 17 #[.slice (some ⟨b, o, none⟩) n c, .int .i64 at_] w fun e w' => e = .returned (.tuple #[.agg #[.int .i64 op, .int .i64 0, .int .i64 0, .int .i32 0, .int .i64 0], .int .i64 1, .int .i64 0]) ∧ Below w.heap.size w w' := by
  have g0 : (at_ < 0) = False := by simp; omega
  have g1 : ((n : Int) < at_) = False := by simp; omega
  have g2 : (at_ = (n : Int)) = False := by simp; omega
  have g3 : (at_ == (n : Int)) = false := by simp; omega
  have q3 : (c = F) = False := by simp; omega
  have q2 : (at_ + 1).toNat = F + 1 := by omega
  have hbb : ∀ k, (w.alloc (.cells #[.int .i64 0, .int .i64 0, .int .i64 0, .int .i32 0, .int .i64 0] 25)).cell? ⟨b, k, none⟩ = w.cell? ⟨b, k, none⟩ := fun k => World.cell?_alloc_lt _ _ _ hb
  have q5 : F + 1 ≤ c := by omega
  have q7 : at_ + 1 ≤ c := by omega
  go_enter Tryd.func17, Tryd.ntmps17
  go_wp2_with (first
    | (go_at_call 47; refine (Hfi.out _).mono ?_; rintro e w2 ⟨rfl, hb2⟩; have hz2 : w.heap.size < w2.heap.size := (by have := hb2.size; simp at this; omega); have hR2 := (Blk.new w 25 [.int .i64 0, .int .i64 0, .int .i64 0, .int .i32 0, .int .i64 0]).below hb2 (by simp); have hB2 : Below w.heap.size w w2 := ((Below.refl _ _).alloc (Nat.le_refl _) _).trans (hb2.mono (by simp)))
    | (go_at_call 48; refine (Hsz.out _).mono ?_; rintro e w3 ⟨rfl, hb3⟩; have hz3 := hb3.size; have hR3 := hR2.below hb3 hz2; have hB3 : Below w.heap.size w w3 := hB2.trans (hb3.mono (by omega)))
    | (go_at_call 49; refine (Hsh.out _).mono ?_; rintro e w4 ⟨rfl, hb4⟩; have hz4 : w3.heap.size < w4.heap.size := (by have := hb4.size; simp at this; omega); have hD4 : RefW w w3.heap.size [.int .i64 op, .int .i64 0, .int .i64 0, .int .i32 0, .int .i64 0] w4 := ⟨by omega, (hB3.alloc hB3.size _).trans (hb4.mono (by simp; omega)), (hR3.alloc _).below hb4 (by simp; omega), (Blk.new w3 _ _).below hb4 (by simp)⟩; obtain ⟨i0, i1, i2, i3, i4⟩ := hD4.ins)
    | (go_at_call 51; refine (Hch.out _).mono ?_; rintro e w9 ⟨rfl, hb9⟩; have hD9 := hD4.below hb9; obtain ⟨k0, k1, k2, k3, k4⟩ := hD9.ins)
    | ((with_reducible show wpList _ _ _ (Oper.mk none (Op.store _ (Operand.tmp 4) (Operand.tmp 170)) _ _ _ _ :: _) _ _); refine wpList_storeQ hD9.2.1 hD9.2.2.1 rfl 25 (.tmp 4) (.tmp 170) (.int .i64 op) (.int .i64 0) (.int .i64 0) (.int .i32 0) (.int .i64 0) rfl (by kernel_rfl) (by kernel_rfl) (by simp [Value.oneCell']) (by kernel_rfl) ?_; intro w8 hB8 hz8; obtain ⟨z0, z1, z2, z3, z4⟩ := hz8))
  refine bodyPost_ret (v := .tuple #[.agg #[.int .i64 op, .int .i64 0, .int .i64 0, .int .i32 0, .int .i64 0], .int .i64 1, .int .i64 0]) (by simp [results, Tryd.results17, go_sem, z0, z1, z2, z3, z4]) rfl ⟨rfl, hB8⟩

set_option maxRecDepth 20000 in
set_option maxHeartbeats 1000000 in
theorem rdec_1_0_bad (b o n c F : Nat) (at_ x op : Int) (w : World) (hop : (op == 0) = false) (h0 : 0 ≤ at_) (h1 : at_ < n) (hF : at_.toNat = F) (hn : (n : Int) ≤ 140737488351232) (hnc : n ≤ c) (hb : b < w.heap.size) (hlen : 1 ≤ (n : Int) - at_)
    (hx : w.cell? ⟨b, o + F, none⟩ = some (.int .u8 x)) (C : Int) (hC : (C != 0) = true) (Hch : Hid (∀ w, Calls Tryd.prog 51 #[.agg #[.int .i64 op, .int .i64 0, .int .i64 0, .int .i32 0, .int .i64 0]] w fun e w' => e = .returned (.int .i64 C) ∧ Below w.heap.size w w')) (Hsh : Hid (∀ w, Calls Tryd.prog 49 #[.int .i64 op] w fun e w' => e = .returned (.int .i64 1) ∧ Below w.heap.size w w'))
    (Hfi : Hid (∀ w, Calls Tryd.prog 47 #[.int .u8 x] w fun e w' => e = .returned (.tuple #[.int .i64 op, .int .i64 0]) ∧ Below w.heap.size w w'))
    (Hsz : Hid (∀ w, Calls Tryd.prog 48 #[.int .i64 op, .int .i64 0] w fun e w' => e = .returned (.int .i64 1) ∧ Below w.heap.size w w')) :
    Calls Tryd.prog 17 #[.slice (some ⟨b, o, none⟩) n c, .int .i64 at_] w fun e w' => e = .returned (.tuple #[.agg #[.int .i64 0, .int .i64 0, .int .i64 0, .int .i32 0, .int .i64 0], .int .i64 0, .int .i64 C]) ∧ Below w.heap.size w w' := by
  have g0 : (at_ < 0) = False := by simp; omega
  have g1 : ((n : Int) < at_) = False := by simp; omega
  have g2 : (at_ = (n : Int)) = False := by simp; omega
  have g3 : (at_ == (n : Int)) = false := by simp; omega
  have q3 : (c = F) = False := by simp; omega
  have q2 : (at_ + 1).toNat = F + 1 := by omega
  have hbb : ∀ k, (w.alloc (.cells #[.int .i64 0, .int .i64 0, .int .i64 0, .int .i32 0, .int .i64 0] 25)).cell? ⟨b, k, none⟩ = w.cell? ⟨b, k, none⟩ := fun k => World.cell?_alloc_lt _ _ _ hb
  have q5 : F + 1 ≤ c := by omega
  have q7 : at_ + 1 ≤ c := by omega
  go_enter Tryd.func17, Tryd.ntmps17
  go_wp2_with (first
    | (go_at_call 47; refine (Hfi.out _).mono ?_; rintro e w2 ⟨rfl, hb2⟩; have hz2 : w.heap.size < w2.heap.size := (by have := hb2.size; simp at this; omega); have hR2 := (Blk.new w 25 [.int .i64 0, .int .i64 0, .int .i64 0, .int .i32 0, .int .i64 0]).below hb2 (by simp); have hB2 : Below w.heap.size w w2 := ((Below.refl _ _).alloc (Nat.le_refl _) _).trans (hb2.mono (by simp)))
    | (go_at_call 48; refine (Hsz.out _).mono ?_; rintro e w3 ⟨rfl, hb3⟩; have hz3 := hb3.size; have hR3 := hR2.below hb3 hz2; have hB3 : Below w.heap.size w w3 := hB2.trans (hb3.mono (by omega)))
    | (go_at_call 49; refine (Hsh.out _).mono ?_; rintro e w4 ⟨rfl, hb4⟩; have hz4 : w3.heap.size < w4.heap.size := (by have := hb4.size; simp at this; omega); have hD4 : RefW w w3.heap.size [.int .i64 op, .int .i64 0, .int .i64 0, .int .i32 0, .int .i64 0] w4 := ⟨by omega, (hB3.alloc hB3.size _).trans (hb4.mono (by simp; omega)), (hR3.alloc _).below hb4 (by simp; omega), (Blk.new w3 _ _).below hb4 (by simp)⟩; obtain ⟨i0, i1, i2, i3, i4⟩ := hD4.ins)
    | (go_at_call 51; refine (Hch.out _).mono ?_; rintro e w9 ⟨rfl, hb9⟩; have hD9 := hD4.below hb9; obtain ⟨k0, k1, k2, k3, k4⟩ := hD9.ins)
    | ((with_reducible show wpList _ _ _ (Oper.mk none (Op.store _ (Operand.tmp 4) (Operand.tmp 168)) _ _ _ _ :: _) _ _); refine wpList_storeQ hD9.2.1 hD9.2.2.1 rfl 25 (.tmp 4) (.tmp 168) (.int .i64 0) (.int .i64 0) (.int .i64 0) (.int .i32 0) (.int .i64 0) rfl (by kernel_rfl) (by kernel_rfl) (by simp [Value.oneCell']) (by kernel_rfl) ?_; intro w8 hB8 hz8; obtain ⟨z0, z1, z2, z3, z4⟩ := hz8))
  refine bodyPost_ret (v := .tuple #[.agg #[.int .i64 0, .int .i64 0, .int .i64 0, .int .i32 0, .int .i64 0], .int .i64 0, .int .i64 C]) (by simp [results, Tryd.results17, go_sem, z0, z1, z2, z3, z4]) rfl ⟨rfl, hB8⟩

set_option maxRecDepth 20000 in
set_option maxHeartbeats 1000000 in
theorem rdec_1_0_short (b o n c F : Nat) (at_ x op : Int) (w : World) (hop : (op == 0) = false) (h0 : 0 ≤ at_) (h1 : at_ < n) (hF : at_.toNat = F) (hn : (n : Int) ≤ 140737488351232) (hnc : n ≤ c) (hb : b < w.heap.size) (hlen : (n : Int) - at_ < 1)
    (hx : w.cell? ⟨b, o + F, none⟩ = some (.int .u8 x)) 
    (Hfi : Hid (∀ w, Calls Tryd.prog 47 #[.int .u8 x] w fun e w' => e = .returned (.tuple #[.int .i64 op, .int .i64 0]) ∧ Below w.heap.size w w'))
    (Hsz : Hid (∀ w, Calls Tryd.prog 48 #[.int .i64 op, .int .i64 0] w fun e w' => e = .returned (.int .i64 1) ∧ Below w.heap.size w w')) :
    Calls Tryd.prog 17 #[.slice (some ⟨b, o, none⟩) n c, .int .i64 at_] w fun e w' => e = .returned (.tuple #[.agg #[.int .i64 0, .int .i64 0, .int .i64 0, .int .i32 0, .int .i64 0], .int .i64 0, .int .i64 10]) ∧ Below w.heap.size w w' := by
  have g0 : (at_ < 0) = False := by simp; omega
  have g1 : ((n : Int) < at_) = False := by simp; omega
  have g2 : (at_ = (n : Int)) = False := by simp; omega
  have g3 : (at_ == (n : Int)) = false := by simp; omega
  have q3 : (c = F) = False := by simp; omega
  have q2 : (at_ + 1).toNat = F + 1 := by omega
  have hbb : ∀ k, (w.alloc (.cells #[.int .i64 0, .int .i64 0, .int .i64 0, .int .i32 0, .int .i64 0] 25)).cell? ⟨b, k, none⟩ = w.cell? ⟨b, k, none⟩ := fun k => World.cell?_alloc_lt _ _ _ hb
  go_enter Tryd.func17, Tryd.ntmps17
  go_wp2_with (first
    | (go_at_call 47; refine (Hfi.out _).mono ?_; rintro e w2 ⟨rfl, hb2⟩; have hz2 : w.heap.size < w2.heap.size := (by have := hb2.size; simp at this; omega); have hR2 := (Blk.new w 25 [.int .i64 0, .int .i64 0, .int .i64 0, .int .i32 0, .int .i64 0]).below hb2 (by simp); have hB2 : Below w.heap.size w w2 := ((Below.refl _ _).alloc (Nat.le_refl _) _).trans (hb2.mono (by simp)))
    | (go_at_call 48; refine (Hsz.out _).mono ?_; rintro e w3 ⟨rfl, hb3⟩; have hz3 := hb3.size; have hR3 := hR2.below hb3 hz2; have hB3 : Below w.heap.size w w3 := hB2.trans (hb3.mono (by omega)))
    | ((with_reducible show wpList _ _ _ (Oper.mk none (Op.store _ (Operand.tmp 4) (Operand.tmp 47)) _ _ _ _ :: _) _ _); refine wpList_storeQ hB3 hR3 rfl 25 (.tmp 4) (.tmp 47) (.int .i64 0) (.int .i64 0) (.int .i64 0) (.int .i32 0) (.int .i64 0) rfl (by kernel_rfl) (by kernel_rfl) (by simp [Value.oneCell']) (by kernel_rfl) ?_; intro w8 hB8 hz8; obtain ⟨z0, z1, z2, z3, z4⟩ := hz8))
  refine bodyPost_ret (v := .tuple #[.agg #[.int .i64 0, .int .i64 0, .int .i64 0, .int .i32 0, .int .i64 0], .int .i64 0, .int .i64 10]) (by simp [results, Tryd.results17, go_sem, z0, z1, z2, z3, z4]) rfl ⟨rfl, hB8⟩

set_option maxRecDepth 20000 in
set_option maxHeartbeats 1000000 in
theorem rdec_2_0_ok (b o n c F : Nat) (at_ x op : Int) (w : World) (hop : (op == 0) = false) (h0 : 0 ≤ at_) (h1 : at_ < n) (hF : at_.toNat = F) (hn : (n : Int) ≤ 140737488351232) (hnc : n ≤ c) (hb : b < w.heap.size) (hlen : 2 ≤ (n : Int) - at_)
    (hx : w.cell? ⟨b, o + F, none⟩ = some (.int .u8 x)) (r1 : Int) (hr1 : 0 ≤ r1 ∧ r1 < 256) (hx1 : w.cell? ⟨b, o + F + 1, none⟩ = some (.int .u8 r1)) (Hch : Hid (∀ w, Calls Tryd.prog 51 #[.agg #[.int .i64 op, .int .i64 r1, .int .i64 0, .int .i32 0, .int .i64 0]] w fun e w' => e = .returned (.int .i64 0) ∧ Below w.heap.size w w')) (Hsh : Hid (∀ w, Calls Tryd.prog 49 #[.int .i64 op] w fun e w' => e = .returned (.int .i64 2) ∧ Below w.heap.size w w'))
    (Hfi : Hid (∀ w, Calls Tryd.prog 47 #[.int .u8 x] w fun e w' => e = .returned (.tuple #[.int .i64 op, .int .i64 0]) ∧ Below w.heap.size w w'))
    (Hsz : Hid (∀ w, Calls Tryd.prog 48 #[.int .i64 op, .int .i64 0] w fun e w' => e = .returned (.int .i64 2) ∧ Below w.heap.size w w')) :
    Calls Tryd.prog 17 #[.slice (some ⟨b, o, none⟩) n c, .int .i64 at_] w fun e w' => e = .returned (.tuple #[.agg #[.int .i64 op, .int .i64 r1, .int .i64 0, .int .i32 0, .int .i64 0], .int .i64 2, .int .i64 0]) ∧ Below w.heap.size w w' := by
  have g0 : (at_ < 0) = False := by simp; omega
  have g1 : ((n : Int) < at_) = False := by simp; omega
  have g2 : (at_ = (n : Int)) = False := by simp; omega
  have g3 : (at_ == (n : Int)) = false := by simp; omega
  have q3 : (c = F) = False := by simp; omega
  have q2 : (at_ + 2).toNat = F + 2 := by omega
  have hbb : ∀ k, (w.alloc (.cells #[.int .i64 0, .int .i64 0, .int .i64 0, .int .i32 0, .int .i64 0] 25)).cell? ⟨b, k, none⟩ = w.cell? ⟨b, k, none⟩ := fun k => World.cell?_alloc_lt _ _ _ hb
  have q5 : F + 2 ≤ c := by omega
  have q7 : at_ + 2 ≤ c := by omega
  obtain ⟨hr10, hr11⟩ := hr1
  go_enter Tryd.func17, Tryd.ntmps17
  go_wp2_with (first
    | (go_at_call 47; refine (Hfi.out _).mono ?_; rintro e w2 ⟨rfl, hb2⟩; have hz2 : w.heap.size < w2.heap.size := (by have := hb2.size; simp at this; omega); have hR2 := (Blk.new w 25 [.int .i64 0, .int .i64 0, .int .i64 0, .int .i32 0, .int .i64 0]).below hb2 (by simp); have hB2 : Below w.heap.size w w2 := ((Below.refl _ _).alloc (Nat.le_refl _) _).trans (hb2.mono (by simp)))
    | (go_at_call 48; refine (Hsz.out _).mono ?_; rintro e w3 ⟨rfl, hb3⟩; have hz3 := hb3.size; have hR3 := hR2.below hb3 hz2; have hB3 : Below w.heap.size w w3 := hB2.trans (hb3.mono (by omega)))
    | (go_at_call 49; refine (Hsh.out _).mono ?_; rintro e w4 ⟨rfl, hb4⟩; have hz4 : w3.heap.size < w4.heap.size := (by have := hb4.size; simp at this; omega); have hD4 : RefW w w3.heap.size [.int .i64 op, .int .i64 0, .int .i64 0, .int .i32 0, .int .i64 0] w4 := ⟨by omega, (hB3.alloc hB3.size _).trans (hb4.mono (by simp; omega)), (hR3.alloc _).below hb4 (by simp; omega), (Blk.new w3 _ _).below hb4 (by simp)⟩; obtain ⟨i0, i1, i2, i3, i4⟩ := hD4.ins; have v1 := (hD4.byte (k := o + F + 1) hb).trans hx1)
    | ((with_reducible show wpList _ _ _ (Oper.mk none (Op.store _ (Operand.tmp 66) (Operand.tmp 65)) _ _ _ _ :: _) _ _); refine wpList_storeV hD4 rfl 3 (.tmp 66) (.tmp 65) 1 .i64 r1 rfl (by kernel_rfl) (by kernel_rfl) (by simp) (by kernel_rfl) ?_; intro ws5 hD5; obtain ⟨s05, s15, s25, s35, s45⟩ := hD5.ins; have v15 := (hD5.byte (k := o + F + 1) hb).trans hx1)
    | (go_at_call 51; refine (Hch.out _).mono ?_; rintro e w9 ⟨rfl, hb9⟩; have hD9 := hD5.below hb9; obtain ⟨k0, k1, k2, k3, k4⟩ := hD9.ins)
    | ((with_reducible show wpList _ _ _ (Oper.mk none (Op.store _ (Operand.tmp 4) (Operand.tmp 170)) _ _ _ _ :: _) _ _); refine wpList_storeQ hD9.2.1 hD9.2.2.1 rfl 25 (.tmp 4) (.tmp 170) (.int .i64 op) (.int .i64 r1) (.int .i64 0) (.int .i32 0) (.int .i64 0) rfl (by kernel_rfl) (by kernel_rfl) (by simp [Value.oneCell']) (by kernel_rfl) ?_; intro w8 hB8 hz8; obtain ⟨z0, z1, z2, z3, z4⟩ := hz8))
  refine bodyPost_ret (v := .tuple #[.agg #[.int .i64 op, .int .i64 r1, .int .i64 0, .int .i32 0, .int .i64 0], .int .i64 2, .int .i64 0]) (by simp [results, Tryd.results17, go_sem, z0, z1, z2, z3, z4]) rfl ⟨rfl, hB8⟩

set_option maxRecDepth 20000 in
set_option maxHeartbeats 1000000 in
theorem rdec_2_0_bad (b o n c F : Nat) (at_ x op : Int) (w : World) (hop : (op == 0) = false) (h0 : 0 ≤ at_) (h1 : at_ < n) (hF : at_.toNat = F) (hn : (n : Int) ≤ 140737488351232) (hnc : n ≤ c) (hb : b < w.heap.size) (hlen : 2 ≤ (n : Int) - at_)
    (hx : w.cell? ⟨b, o + F, none⟩ = some (.int .u8 x)) (r1 : Int) (hr1 : 0 ≤ r1 ∧ r1 < 256) (hx1 : w.cell? ⟨b, o + F + 1, none⟩ = some (.int .u8 r1)) (C : Int) (hC : (C != 0) = true) (Hch : Hid (∀ w, Calls Tryd.prog 51 #[.agg #[.int .i64 op, .int .i64 r1, .int .i64 0, .int .i32 0, .int .i64 0]] w fun e w' => e = .returned (.int .i64 C) ∧ Below w.heap.size w w')) (Hsh : Hid (∀ w, Calls Tryd.prog 49 #[.int .i64 op] w fun e w' => e = .returned (.int .i64 2) ∧ Below w.heap.size w w'))
    (Hfi : Hid (∀ w, Calls Tryd.prog 47 #[.int .u8 x] w fun e w' => e = .returned (.tuple #[.int .i64 op, .int .i64 0]) ∧ Below w.heap.size w w'))
    (Hsz : Hid (∀ w, Calls Tryd.prog 48 #[.int .i64 op, .int .i64 0] w fun e w' => e = .returned (.int .i64 2) ∧ Below w.heap.size w w')) :
    Calls Tryd.prog 17 #[.slice (some ⟨b, o, none⟩) n c, .int .i64 at_] w fun e w' => e = .returned (.tuple #[.agg #[.int .i64 0, .int .i64 0, .int .i64 0, .int .i32 0, .int .i64 0], .int .i64 0, .int .i64 C]) ∧ Below w.heap.size w w' := by
  have g0 : (at_ < 0) = False := by simp; omega
  have g1 : ((n : Int) < at_) = False := by simp; omega
  have g2 : (at_ = (n : Int)) = False := by simp; omega
  have g3 : (at_ == (n : Int)) = false := by simp; omega
  have q3 : (c = F) = False := by simp; omega
  have q2 : (at_ + 2).toNat = F + 2 := by omega
  have hbb : ∀ k, (w.alloc (.cells #[.int .i64 0, .int .i64 0, .int .i64 0, .int .i32 0, .int .i64 0] 25)).cell? ⟨b, k, none⟩ = w.cell? ⟨b, k, none⟩ := fun k => World.cell?_alloc_lt _ _ _ hb
  have q5 : F + 2 ≤ c := by omega
  have q7 : at_ + 2 ≤ c := by omega
  obtain ⟨hr10, hr11⟩ := hr1
  go_enter Tryd.func17, Tryd.ntmps17
  go_wp2_with (first
    | (go_at_call 47; refine (Hfi.out _).mono ?_; rintro e w2 ⟨rfl, hb2⟩; have hz2 : w.heap.size < w2.heap.size := (by have := hb2.size; simp at this; omega); have hR2 := (Blk.new w 25 [.int .i64 0, .int .i64 0, .int .i64 0, .int .i32 0, .int .i64 0]).below hb2 (by simp); have hB2 : Below w.heap.size w w2 := ((Below.refl _ _).alloc (Nat.le_refl _) _).trans (hb2.mono (by simp)))
    | (go_at_call 48; refine (Hsz.out _).mono ?_; rintro e w3 ⟨rfl, hb3⟩; have hz3 := hb3.size; have hR3 := hR2.below hb3 hz2; have hB3 : Below w.heap.size w w3 := hB2.trans (hb3.mono (by omega)))
    | (go_at_call 49; refine (Hsh.out _).mono ?_; rintro e w4 ⟨rfl, hb4⟩; have hz4 : w3.heap.size < w4.heap.size := (by have := hb4.size; simp at this; omega); have hD4 : RefW w w3.heap.size [.int .i64 op, .int .i64 0, .int .i64 0, .int .i32 0, .int .i64 0] w4 := ⟨by omega, (hB3.alloc hB3.size _).trans (hb4.mono (by simp; omega)), (hR3.alloc _).below hb4 (by simp; omega), (Blk.new w3 _ _).below hb4 (by simp)⟩; obtain ⟨i0, i1, i2, i3, i4⟩ := hD4.ins; have v1 := (hD4.byte (k := o + F + 1) hb).trans hx1)
    | ((with_reducible show wpList _ _ _ (Oper.mk none (Op.store _ (Operand.tmp 66) (Operand.tmp 65)) _ _ _ _ :: _) _ _); refine wpList_storeV hD4 rfl 3 (.tmp 66) (.tmp 65) 1 .i64 r1 rfl (by kernel_rfl) (by kernel_rfl) (by simp) (by kernel_rfl) ?_; intro ws5 hD5; obtain ⟨s05, s15, s25, s35, s45⟩ := hD5.ins; have v15 := (hD5.byte (k := o + F + 1) hb).trans hx1)
    | (go_at_call 51; refine (Hch.out _).mono ?_; rintro e w9 ⟨rfl, hb9⟩; have hD9 := hD5.below hb9; obtain ⟨k0, k1, k2, k3, k4⟩ := hD9.ins)
    | ((with_reducible show wpList _ _ _ (Oper.mk none (Op.store _ (Operand.tmp 4) (Operand.tmp 168)) _ _ _ _ :: _) _ _); refine wpList_storeQ hD9.2.1 hD9.2.2.1 rfl 25 (.tmp 4) (.tmp 168) (.int .i64 0) (.int .i64 0) (.int .i64 0) (.int .i32 0) (.int .i64 0) rfl (by kernel_rfl) (by kernel_rfl) (by simp [Value.oneCell']) (by kernel_rfl) ?_; intro w8 hB8 hz8; obtain ⟨z0, z1, z2, z3, z4⟩ := hz8))
  refine bodyPost_ret (v := .tuple #[.agg #[.int .i64 0, .int .i64 0, .int .i64 0, .int .i32 0, .int .i64 0], .int .i64 0, .int .i64 C]) (by simp [results, Tryd.results17, go_sem, z0, z1, z2, z3, z4]) rfl ⟨rfl, hB8⟩

set_option maxRecDepth 20000 in
set_option maxHeartbeats 1000000 in
theorem rdec_2_0_short (b o n c F : Nat) (at_ x op : Int) (w : World) (hop : (op == 0) = false) (h0 : 0 ≤ at_) (h1 : at_ < n) (hF : at_.toNat = F) (hn : (n : Int) ≤ 140737488351232) (hnc : n ≤ c) (hb : b < w.heap.size) (hlen : (n : Int) - at_ < 2)
    (hx : w.cell? ⟨b, o + F, none⟩ = some (.int .u8 x)) 
    (Hfi : Hid (∀ w, Calls Tryd.prog 47 #[.int .u8 x] w fun e w' => e = .returned (.tuple #[.int .i64 op, .int .i64 0]) ∧ Below w.heap.size w w'))
    (Hsz : Hid (∀ w, Calls Tryd.prog 48 #[.int .i64 op, .int .i64 0] w fun e w' => e = .returned (.int .i64 2) ∧ Below w.heap.size w w')) :
    Calls Tryd.prog 17 #[.slice (some ⟨b, o, none⟩) n c, .int .i64 at_] w fun e w' => e = .returned (.tuple #[.agg #[.int .i64 0, .int .i64 0, .int .i64 0, .int .i32 0, .int .i64 0], .int .i64 0, .int .i64 10]) ∧ Below w.heap.size w w' := by
  have g0 : (at_ < 0) = False := by simp; omega
  have g1 : ((n : Int) < at_) = False := by simp; omega
  have g2 : (at_ = (n : Int)) = False := by simp; omega
  have g3 : (at_ == (n : Int)) = false := by simp; omega
  have q3 : (c = F) = False := by simp; omega
  have q2 : (at_ + 2).toNat = F + 2 := by omega
  have hbb : ∀ k, (w.alloc (.cells #[.int .i64 0, .int .i64 0, .int .i64 0, .int .i32 0, .int .i64 0] 25)).cell? ⟨b, k, none⟩ = w.cell? ⟨b, k, none⟩ := fun k => World.cell?_alloc_lt _ _ _ hb
  go_enter Tryd.func17, Tryd.ntmps17
  go_wp2_with (first
    | (go_at_call 47; refine (Hfi.out _).mono ?_; rintro e w2 ⟨rfl, hb2⟩; have hz2 : w.heap.size < w2.heap.size := (by have := hb2.size; simp at this; omega); have hR2 := (Blk.new w 25 [.int .i64 0, .int .i64 0, .int .i64 0, .int .i32 0, .int .i64 0]).below hb2 (by simp); have hB2 : Below w.heap.size w w2 := ((Below.refl _ _).alloc (Nat.le_refl _) _).trans (hb2.mono (by simp)))
    | (go_at_call 48; refine (Hsz.out _).mono ?_; rintro e w3 ⟨rfl, hb3⟩; have hz3 := hb3.size; have hR3 := hR2.below hb3 hz2; have hB3 : Below w.heap.size w w3 := hB2.trans (hb3.mono (by omega)))
    | ((with_reducible show wpList _ _ _ (Oper.mk none (Op.store _ (Operand.tmp 4) (Operand.tmp 47)) _ _ _ _ :: _) _ _); refine wpList_storeQ hB3 hR3 rfl 25 (.tmp 4) (.tmp 47) (.int .i64 0) (.int .i64 0) (.int .i64 0) (.int .i32 0) (.int .i64 0) rfl (by kernel_rfl) (by kernel_rfl) (by simp [Value.oneCell']) (by kernel_rfl) ?_; intro w8 hB8 hz8; obtain ⟨z0, z1, z2, z3, z4⟩ := hz8))
  refine bodyPost_ret (v := .tuple #[.agg #[.int .i64 0, .int .i64 0, .int .i64 0, .int .i32 0, .int .i64 0], .int .i64 0, .int .i64 10]) (by simp [results, Tryd.results17, go_sem, z0, z1, z2, z3, z4]) rfl ⟨rfl, hB8⟩

set_option maxRecDepth 20000 in
set_option maxHeartbeats 1000000 in
theorem rdec_3_0_ok (b o n c F : Nat) (at_ x op : Int) (w : World) (hop : (op == 0) = false) (h0 : 0 ≤ at_) (h1 : at_ < n) (hF : at_.toNat = F) (hn : (n : Int) ≤ 140737488351232) (hnc : n ≤ c) (hb : b < w.heap.size) (hlen : 2 ≤ (n : Int) - at_)
    (hx : w.cell? ⟨b, o + F, none⟩ = some (.int .u8 x)) (r1 : Int) (hr1 : 0 ≤ r1 ∧ r1 < 256) (hx1 : w.cell? ⟨b, o + F + 1, none⟩ = some (.int .u8 r1)) (Hch : Hid (∀ w, Calls Tryd.prog 51 #[.agg #[.int .i64 op, .int .i64 r1, .int .i64 0, .int .i32 0, .int .i64 0]] w fun e w' => e = .returned (.int .i64 0) ∧ Below w.heap.size w w')) (Hsh : Hid (∀ w, Calls Tryd.prog 49 #[.int .i64 op] w fun e w' => e = .returned (.int .i64 3) ∧ Below w.heap.size w w'))
    (Hfi : Hid (∀ w, Calls Tryd.prog 47 #[.int .u8 x] w fun e w' => e = .returned (.tuple #[.int .i64 op, .int .i64 0]) ∧ Below w.heap.size w w'))
    (Hsz : Hid (∀ w, Calls Tryd.prog 48 #[.int .i64 op, .int .i64 0] w fun e w' => e = .returned (.int .i64 2) ∧ Below w.heap.size w w')) :
    Calls Tryd.prog 17 #[.slice (some ⟨b, o, none⟩) n c, .int .i64 at_] w fun e w' => e = .returned (.tuple #[.agg #[.int .i64 op, .int .i64 r1, .int .i64 0, .int .i32 0, .int .i64 0], .int .i64 2, .int .i64 0]) ∧ Below w.heap.size w w' := by
  have g0 : (at_ < 0) = False := by simp; omega
  have g1 : ((n : Int) < at_) = False := by simp; omega
  have g2 : (at_ = (n : Int)) = False := by simp; omega
  have g3 : (at_ == (n : Int)) = false := by simp; omega
  have q3 : (c = F) = False := by simp; omega
  have q2 : (at_ + 2).toNat = F + 2 := by omega
  have hbb : ∀ k, (w.alloc (.cells #[.int .i64 0, .int .i64 0, .int .i64 0, .int .i32 0, .int .i64 0] 25)).cell? ⟨b, k, none⟩ = w.cell? ⟨b, k, none⟩ := fun k => World.cell?_alloc_lt _ _ _ hb
  have q5 : F + 2 ≤ c := by omega
  have q7 : at_ + 2 ≤ c := by omega
  obtain ⟨hr10, hr11⟩ := hr1
  go_enter Tryd.func17, Tryd.ntmps17
  go_wp2_with (first
    | (go_at_call 47; refine (Hfi.out _).mono ?_; rintro e w2 ⟨rfl, hb2⟩; have hz2 : w.heap.size < w2.heap.size := (by have := hb2.size; simp at this; omega); have hR2 := (Blk.new w 25 [.int .i64 0, .int .i64 0, .int .i64 0, .int .i32 0, .int .i64 0]).below hb2 (by simp); have hB2 : Below w.heap.size w w2 := ((Below.refl _ _).alloc (Nat.le_refl _) _).trans (hb2.mono (by simp)))
    | (go_at_call 48; refine (Hsz.out _).mono ?_; rintro e w3 ⟨rfl, hb3⟩; have hz3 := hb3.size; have hR3 := hR2.below hb3 hz2; have hB3 : Below w.heap.size w w3 := hB2.trans (hb3.mono (by omega)))
    | (go_at_call 49; refine (Hsh.out _).mono ?_; rintro e w4 ⟨rfl, hb4⟩; have hz4 : w3.heap.size < w4.heap.size := (by have := hb4.size; simp at this; omega); have hD4 : RefW w w3.heap.size [.int .i64 op, .int .i64 0, .int .i64 0, .int .i32 0, .int .i64 0] w4 := ⟨by omega, (hB3.alloc hB3.size _).trans (hb4.mono (by simp; omega)), (hR3.alloc _).below hb4 (by simp; omega), (Blk.new w3 _ _).below hb4 (by simp)⟩; obtain ⟨i0, i1, i2, i3, i4⟩ := hD4.ins; have v1 := (hD4.byte (k := o + F + 1) hb).trans hx1)
    | ((with_reducible show wpList _ _ _ (Oper.mk none (Op.store _ (Operand.tmp 66) (Operand.tmp 65)) _ _ _ _ :: _) _ _); refine wpList_storeV hD4 rfl 3 (.tmp 66) (.tmp 65) 1 .i64 r1 rfl (by kernel_rfl) (by kernel_rfl) (by simp) (by kernel_rfl) ?_; intro ws5 hD5; obtain ⟨s05, s15, s25, s35, s45⟩ := hD5.ins; have v15 := (hD5.byte (k := o + F + 1) hb).trans hx1)
    | (go_at_call 51; refine (Hch.out _).mono ?_; rintro e w9 ⟨rfl, hb9⟩; have hD9 := hD5.below hb9; obtain ⟨k0, k1, k2, k3, k4⟩ := hD9.ins)
    | ((with_reducible show wpList _ _ _ (Oper.mk none (Op.store _ (Operand.tmp 4) (Operand.tmp 170)) _ _ _ _ :: _) _ _); refine wpList_storeQ hD9.2.1 hD9.2.2.1 rfl 25 (.tmp 4) (.tmp 170) (.int .i64 op) (.int .i64 r1) (.int .i64 0) (.int .i32 0) (.int .i64 0) rfl (by kernel_rfl) (by kernel_rfl) (by simp [Value.oneCell']) (by kernel_rfl) ?_; intro w8 hB8 hz8; obtain ⟨z0, z1, z2, z3, z4⟩ := hz8))
  refine bodyPost_ret (v := .tuple #[.agg #[.int .i64 op, .int .i64 r1, .int .i64 0, .int .i32 0, .int .i64 0], .int .i64 2, .int .i64 0]) (by simp [results, Tryd.results17, go_sem, z0, z1, z2, z3, z4]) rfl ⟨rfl, hB8⟩

set_option maxRecDepth 20000 in
set_option maxHeartbeats 1000000 in
theorem rdec_3_0_bad (b o n c F : Nat) (at_ x op : Int) (w : World) (hop : (op == 0) = false) (h0 : 0 ≤ at_) (h1 : at_ < n) (hF : at_.toNat = F) (hn : (n : Int) ≤ 140737488351232) (hnc : n ≤ c) (hb : b < w.heap.size) (hlen : 2 ≤ (n : Int) - at_)
    (hx : w.cell? ⟨b, o + F, none⟩ = some (.int .u8 x)) (r1 : Int) (hr1 : 0 ≤ r1 ∧ r1 < 256) (hx1 : w.cell? ⟨b, o + F + 1, none⟩ = some (.int .u8 r1)) (C : Int) (hC : (C != 0) = true) (Hch : Hid (∀ w, Calls Tryd.prog 51 #[.agg #[.int .i64 op, .int .i64 r1, .int .i64 0, .int .i32 0, .int .i64 0]] w fun e w' => e = .returned (.int .i64 C) ∧ Below w.heap.size w w')) (Hsh : Hid (∀ w, Calls Tryd.prog 49 #[.int .i64 op] w fun e w' => e = .returned (.int .i64 3) ∧ Below w.heap.size w w'))
    (Hfi : Hid (∀ w, Calls Tryd.prog 47 #[.int .u8 x] w fun e w' => e = .returned (.tuple #[.int .i64 op, .int .i64 0]) ∧ Below w.heap.size w w'))
    (Hsz : Hid (∀ w, Calls Tryd.prog 48 #[.int .i64 op, .int .i64 0] w fun e w' => e = .returned (.int .i64 2) ∧ Below w.heap.size w w')) :
    Calls Tryd.prog 17 #[.slice (some ⟨b, o, none⟩) n c, .int .i64 at_] w fun e w' => e = .returned (.tuple #[.agg #[.int .i64 0, .int .i64 0, .int .i64 0, .int .i32 0, .int .i64 0], .int .i64 0, .int .i64 C]) ∧ Below w.heap.size w w' := by
  have g0 : (at_ < 0) = False := by simp; omega
  have g1 : ((n : Int) < at_) = False := by simp; omega
  have g2 : (at_ = (n : Int)) = False := by simp; omega
  have g3 : (at_ == (n : Int)) = false := by simp; omega
  have q3 : (c = F) = False := by simp; omega
  have q2 : (at_ + 2).toNat = F + 2 := by omega
  have hbb : ∀ k, (w.alloc (.cells #[.int .i64 0, .int .i64 0, .int .i64 0, .int .i32 0, .int .i64 0] 25)).cell? ⟨b, k, none⟩ = w.cell? ⟨b, k, none⟩ := fun k => World.cell?_alloc_lt _ _ _ hb
  have q5 : F + 2 ≤ c := by omega
  have q7 : at_ + 2 ≤ c := by omega
  obtain ⟨hr10, hr11⟩ := hr1
  go_enter Tryd.func17, Tryd.ntmps17
  go_wp2_with (first
    | (go_at_call 47; refine (Hfi.out _).mono ?_; rintro e w2 ⟨rfl, hb2⟩; have hz2 : w.heap.size < w2.heap.size := (by have := hb2.size; simp at this; omega); have hR2 := (Blk.new w 25 [.int .i64 0, .int .i64 0, .int .i64 0, .int .i32 0, .int .i64 0]).below hb2 (by simp); have hB2 : Below w.heap.size w w2 := ((Below.refl _ _).alloc (Nat.le_refl _) _).trans (hb2.mono (by simp)))
    | (go_at_call 48; refine (Hsz.out _).mono ?_; rintro e w3 ⟨rfl, hb3⟩; have hz3 := hb3.size; have hR3 := hR2.below hb3 hz2; have hB3 : Below w.heap.size w w3 := hB2.trans (hb3.mono (by omega)))
    | (go_at_call 49; refine (Hsh.out _).mono ?_; rintro e w4 ⟨rfl, hb4⟩; have hz4 : w3.heap.size < w4.heap.size := (by have := hb4.size; simp at this; omega); have hD4 : RefW w w3.heap.size [.int .i64 op, .int .i64 0, .int .i64 0, .int .i32 0, .int .i64 0] w4 := ⟨by omega, (hB3.alloc hB3.size _).trans (hb4.mono (by simp; omega)), (hR3.alloc _).below hb4 (by simp; omega), (Blk.new w3 _ _).below hb4 (by simp)⟩; obtain ⟨i0, i1, i2, i3, i4⟩ := hD4.ins; have v1 := (hD4.byte (k := o + F + 1) hb).trans hx1)
    | ((with_reducible show wpList _ _ _ (Oper.mk none (Op.store _ (Operand.tmp 66) (Operand.tmp 65)) _ _ _ _ :: _) _ _); refine wpList_storeV hD4 rfl 3 (.tmp 66) (.tmp 65) 1 .i64 r1 rfl (by kernel_rfl) (by kernel_rfl) (by simp) (by kernel_rfl) ?_; intro ws5 hD5; obtain ⟨s05, s15, s25, s35, s45⟩ := hD5.ins; have v15 := (hD5.byte (k := o + F + 1) hb).trans hx1)
    | (go_at_call 51; refine (Hch.out _).mono ?_; rintro e w9 ⟨rfl, hb9⟩; have hD9 := hD5.below hb9; obtain ⟨k0, k1, k2, k3, k4⟩ := hD9.ins)
    | ((with_reducible show wpList _ _ _ (Oper.mk none (Op.store _ (Operand.tmp 4) (Operand.tmp 168)) _ _ _ _ :: _) _ _); refine wpList_storeQ hD9.2.1 hD9.2.2.1 rfl 25 (.tmp 4) (.tmp 168) (.int .i64 0) (.int .i64 0) (.int .i64 0) (.int .i32 0) (.int .i64 0) rfl (by kernel_rfl) (by kernel_rfl) (by simp [Value.oneCell']) (by kernel_rfl) ?_; intro w8 hB8 hz8; obtain ⟨z0, z1, z2, z3, z4⟩ := hz8))
  refine bodyPost_ret (v := .tuple #[.agg #[.int .i64 0, .int .i64 0, .int .i64 0, .int .i32 0, .int .i64 0], .int .i64 0, .int .i64 C]) (by simp [results, Tryd.results17, go_sem, z0, z1, z2, z3, z4]) rfl ⟨rfl, hB8⟩

set_option maxRecDepth 20000 in
set_option maxHeartbeats 1000000 in
theorem rdec_3_0_short (b o n c F : Nat) (at_ x op : Int) (w : World) (hop : (op == 0) = false) (h0 : 0 ≤ at_) (h1 : at_ < n) (hF : at_.toNat = F) (hn : (n : Int) ≤ 140737488351232) (hnc : n ≤ c) (hb : b < w.heap.size) (hlen : (n : Int) - at_ < 2)
    (hx : w.cell? ⟨b, o + F, none⟩ = some (.int .u8 x)) 
    (Hfi : Hid (∀ w, Calls Tryd.prog 47 #[.int .u8 x] w fun e w' => e = .returned (.tuple #[.int .i64 op, .int .i64 0]) ∧ Below w.heap.size w w'))
    (Hsz : Hid (∀ w, Calls Tryd.prog 48 #[.int .i64 op, .int .i64 0] w fun e w' => e = .returned (.int .i64 2) ∧ Below w.heap.size w w')) :
    Calls Tryd.prog 17 #[.slice (some ⟨b, o, none⟩) n c, .int .i64 at_] w fun e w' => e = .returned (.tuple #[.agg #[.int .i64 0, .int .i64 0, .int .i64 0, .int .i32 0, .int .i64 0], .int .i64 0, .int .i64 10]) ∧ Below w.heap.size w w' := by
  have g0 : (at_ < 0) = False := by simp; omega
  have g1 : ((n : Int) < at_) = False := by simp; omega
  have g2 : (at_ = (n : Int)) = False := by simp; omega
  have g3 : (at_ == (n : Int)) = false := by simp; omega
  have q3 : (c = F) = False := by simp; omega
  have q2 : (at_ + 2).toNat = F + 2 := by omega
  have hbb : ∀ k, (w.alloc (.cells #[.int .i64 0, .int .i64 0, .int .i64 0, .int .i32 0, .int .i64 0] 25)).cell? ⟨b, k, none⟩ = w.cell? ⟨b, k, none⟩ := fun k => World.cell?_alloc_lt _ _ _ hb
  go_enter Tryd.func17, Tryd.ntmps17
  go_wp2_with (first
    | (go_at_call 47; refine (Hfi.out _).mono ?_; rintro e w2 ⟨rfl, hb2⟩; have hz2 : w.heap.size < w2.heap.size := (by have := hb2.size; simp at this; omega); have hR2 := (Blk.new w 25 [.int .i64 0, .int .i64 0, .int .i64 0, .int .i32 0, .int .i64 0]).below hb2 (by simp); have hB2 : Below w.heap.size w w2 := ((Below.refl _ _).alloc (Nat.le_refl _) _).trans (hb2.mono (by simp)))
    | (go_at_call 48; refine (Hsz.out _).mono ?_; rintro e w3 ⟨rfl, hb3⟩; have hz3 := hb3.size; have hR3 := hR2.below hb3 hz2; have hB3 : Below w.heap.size w w3 := hB2.trans (hb3.mono (by omega)))
    | ((with_reducible show wpList _ _ _ (Oper.mk none (Op.store _ (Operand.tmp 4) (Operand.tmp 47)) _ _ _ _ :: _) _ _); refine wpList_storeQ hB3 hR3 rfl 25 (.tmp 4) (.tmp 47) (.int .i64 0) (.int .i64 0) (.int .i64 0) (.int .i32 0) (.int .i64 0) rfl (by kernel_rfl) (by kernel_rfl) (by simp [Value.oneCell']) (by kernel_rfl) ?_; intro w8 hB8 hz8; obtain ⟨z0, z1, z2, z3, z4⟩ := hz8))
  refine bodyPost_ret (v := .tuple #[.agg #[.int .i64 0, .int .i64 0, .int .i64 0, .int .i32 0, .int .i64 0], .int .i64 0, .int .i64 10]) (by simp [results, Tryd.results17, go_sem, z0, z1, z2, z3, z4]) rfl ⟨rfl, hB8⟩

set_option maxRecDepth 20000 in
set_option maxHeartbeats 1000000 in
theorem rdec_4_0_ok (b o n c F : Nat) (at_ x op : Int) (w : World) (hop : (op == 0) = false) (h0 : 0 ≤ at_) (h1 : at_ < n) (hF : at_.toNat = F) (hn : (n : Int) ≤ 140737488351232) (hnc : n ≤ c) (hb : b < w.heap.size) (hlen : 2 ≤ (n : Int) - at_)
    (hx : w.cell? ⟨b, o + F, none⟩ = some (.int .u8 x)) (r1 : Int) (hr1 : 0 ≤ r1 ∧ r1 < 256) (hx1 : w.cell? ⟨b, o + F + 1, none⟩ = some (.int .u8 r1)) (Hch : Hid (∀ w, Calls Tryd.prog 51 #[.agg #[.int .i64 op, .int .i64 (r1 / 16), .int .i64 (r1 % 16), .int .i32 0, .int .i64 0]] w fun e w' => e = .returned (.int .i64 0) ∧ Below w.heap.size w w')) (Hsh : Hid (∀ w, Calls Tryd.prog 49 #[.int .i64 op] w fun e w' => e = .returned (.int .i64 4) ∧ Below w.heap.size w w'))
    (Hfi : Hid (∀ w, Calls Tryd.prog 47 #[.int .u8 x] w fun e w' => e = .returned (.tuple #[.int .i64 op, .int .i64 0]) ∧ Below w.heap.size w w'))
    (Hsz : Hid (∀ w, Calls Tryd.prog 48 #[.int .i64 op, .int .i64 0] w fun e w' => e = .returned (.int .i64 2) ∧ Below w.heap.size w w')) :
    Calls Tryd.prog 17 #[.slice (some ⟨b, o, none⟩) n c, .int .i64 at_] w fun e w' => e = .returned (.tuple #[.agg #[.int .i64 op, .int .i64 (r1 / 16), .int .i64 (r1 % 16), .int .i32 0, .int .i64 0], .int .i64 2, .int .i64 0]) ∧ Below w.heap.size w w' := by
  have g0 : (at_ < 0) = False := by simp; omega
  have g1 : ((n : Int) < at_) = False := by simp; omega
  have g2 : (at_ = (n : Int)) = False := by simp; omega
  have g3 : (at_ == (n : Int)) = false := by simp; omega
  have q3 : (c = F) = False := by simp; omega
  have q2 : (at_ + 2).toNat = F + 2 := by omega
  have hbb : ∀ k, (w.alloc (.cells #[.int .i64 0, .int .i64 0, .int .i64 0, .int .i32 0, .int .i64 0] 25)).cell? ⟨b, k, none⟩ = w.cell? ⟨b, k, none⟩ := fun k => World.cell?_alloc_lt _ _ _ hb
  have q5 : F + 2 ≤ c := by omega
  have q7 : at_ + 2 ≤ c := by omega
  obtain ⟨hr10, hr11⟩ := hr1
  have han : bits BinOp.and IntKind.u8 r1 15 = r1 % 16 := and15 hr10 hr11
  go_enter Tryd.func17, Tryd.ntmps17
  go_wp2_with (first
    | (go_at_call 47; refine (Hfi.out _).mono ?_; rintro e w2 ⟨rfl, hb2⟩; have hz2 : w.heap.size < w2.heap.size := (by have := hb2.size; simp at this; omega); have hR2 := (Blk.new w 25 [.int .i64 0, .int .i64 0, .int .i64 0, .int .i32 0, .int .i64 0]).below hb2 (by simp); have hB2 : Below w.heap.size w w2 := ((Below.refl _ _).alloc (Nat.le_refl _) _).trans (hb2.mono (by simp)))
    | (go_at_call 48; refine (Hsz.out _).mono ?_; rintro e w3 ⟨rfl, hb3⟩; have hz3 := hb3.size; have hR3 := hR2.below hb3 hz2; have hB3 : Below w.heap.size w w3 := hB2.trans (hb3.mono (by omega)))
    | (go_at_call 49; refine (Hsh.out _).mono ?_; rintro e w4 ⟨rfl, hb4⟩; have hz4 : w3.heap.size < w4.heap.size := (by have := hb4.size; simp at this; omega); have hD4 : RefW w w3.heap.size [.int .i64 op, .int .i64 0, .int .i64 0, .int .i32 0, .int .i64 0] w4 := ⟨by omega, (hB3.alloc hB3.size _).trans (hb4.mono (by simp; omega)), (hR3.alloc _).below hb4 (by simp; omega), (Blk.new w3 _ _).below hb4 (by simp)⟩; obtain ⟨i0, i1, i2, i3, i4⟩ := hD4.ins; have v1 := (hD4.byte (k := o + F + 1) hb).trans hx1)
    | ((with_reducible show wpList _ _ _ (Oper.mk none (Op.store _ (Operand.tmp 76) (Operand.tmp 75)) _ _ _ _ :: _) _ _); refine wpList_storeV hD4 rfl 3 (.tmp 76) (.tmp 75) 1 .i64 (r1 / 16) rfl (by kernel_rfl) (by kernel_rfl) (by simp) (by kernel_rfl) ?_; intro ws5 hD5; obtain ⟨s05, s15, s25, s35, s45⟩ := hD5.ins; have v15 := (hD5.byte (k := o + F + 1) hb).trans hx1)
    | ((with_reducible show wpList _ _ _ (Oper.mk none (Op.store _ (Operand.tmp 82) (Operand.tmp 81)) _ _ _ _ :: _) _ _); refine wpList_storeV hD5 rfl 3 (.tmp 82) (.tmp 81) 2 .i64 (r1 % 16) rfl (by kernel_rfl) (by kernel_rfl) (by simp) (by kernel_rfl) ?_; intro ws6 hD6; obtain ⟨s06, s16, s26, s36, s46⟩ := hD6.ins; have v16 := (hD6.byte (k := o + F + 1) hb).trans hx1)
    | (go_at_call 51; refine (Hch.out _).mono ?_; rintro e w9 ⟨rfl, hb9⟩; have hD9 := hD6.below hb9; obtain ⟨k0, k1, k2, k3, k4⟩ := hD9.ins)
    | ((with_reducible show wpList _ _ _ (Oper.mk none (Op.store _ (Operand.tmp 4) (Operand.tmp 170)) _ _ _ _ :: _) _ _); refine wpList_storeQ hD9.2.1 hD9.2.2.1 rfl 25 (.tmp 4) (.tmp 170) (.int .i64 op) (.int .i64 (r1 / 16)) (.int .i64 (r1 % 16)) (.int .i32 0) (.int .i64 0) rfl (by kernel_rfl) (by kernel_rfl) (by simp [Value.oneCell']) (by kernel_rfl) ?_; intro w8 hB8 hz8; obtain ⟨z0, z1, z2, z3, z4⟩ := hz8))
  refine bodyPost_ret (v := .tuple #[.agg #[.int .i64 op, .int .i64 (r1 / 16), .int .i64 (r1 % 16), .int .i32 0, .int .i64 0], .int .i64 2, .int .i64 0]) (by simp [results, Tryd.results17, go_sem, z0, z1, z2, z3, z4]) rfl ⟨rfl, hB8⟩

set_option maxRecDepth 20000 in
set_option maxHeartbeats 1000000 in
theorem rdec_4_0_bad (b o n c F : Nat) (at_ x op : Int) (w : World) (hop : (op == 0) = false) (h0 : 0 ≤ at_) (h1 : at_ < n) (hF : at_.toNat = F) (hn : (n : Int) ≤ 140737488351232) (hnc : n ≤ c) (hb : b < w.heap.size) (hlen : 2 ≤ (n : Int) - at_)
    (hx : w.cell? ⟨b, o + F, none⟩ = some (.int .u8 x)) (r1 : Int) (hr1 : 0 ≤ r1 ∧ r1 < 256) (hx1 : w.cell? ⟨b, o + F + 1, none⟩ = some (.int .u8 r1)) (C : Int) (hC : (C != 0) = true) (Hch : Hid (∀ w, Calls Tryd.prog 51 #[.agg #[.int .i64 op, .int .i64 (r1 / 16), .int .i64 (r1 % 16), .int .i32 0, .int .i64 0]] w fun e w' => e = .returned (.int .i64 C) ∧ Below w.heap.size w w')) (Hsh : Hid (∀ w, Calls Tryd.prog 49 #[.int .i64 op] w fun e w' => e = .returned (.int .i64 4) ∧ Below w.heap.size w w'))
    (Hfi : Hid (∀ w, Calls Tryd.prog 47 #[.int .u8 x] w fun e w' => e = .returned (.tuple #[.int .i64 op, .int .i64 0]) ∧ Below w.heap.size w w'))
    (Hsz : Hid (∀ w, Calls Tryd.prog 48 #[.int .i64 op, .int .i64 0] w fun e w' => e = .returned (.int .i64 2) ∧ Below w.heap.size w w')) :
    Calls Tryd.prog 17 #[.slice (some ⟨b, o, none⟩) n c, .int .i64 at_] w fun e w' => e = .returned (.tuple #[.agg #[.int .i64 0, .int .i64 0, .int .i64 0, .int .i32 0, .int .i64 0], .int .i64 0, .int .i64 C]) ∧ Below w.heap.size w w' := by
  have g0 : (at_ < 0) = False := by simp; omega
  have g1 : ((n : Int) < at_) = False := by simp; omega
  have g2 : (at_ = (n : Int)) = False := by simp; omega
  have g3 : (at_ == (n : Int)) = false := by simp; omega
  have q3 : (c = F) = False := by simp; omega
  have q2 : (at_ + 2).toNat = F + 2 := by omega
  have hbb : ∀ k, (w.alloc (.cells #[.int .i64 0, .int .i64 0, .int .i64 0, .int .i32 0, .int .i64 0] 25)).cell? ⟨b, k, none⟩ = w.cell? ⟨b, k, none⟩ := fun k => World.cell?_alloc_lt _ _ _ hb
  have q5 : F + 2 ≤ c := by omega
  have q7 : at_ + 2 ≤ c := by omega
  obtain ⟨hr10, hr11⟩ := hr1
  have han : bits BinOp.and IntKind.u8 r1 15 = r1 % 16 := and15 hr10 hr11
  go_enter Tryd.func17, Tryd.ntmps17
  go_wp2_with (first
    | (go_at_call 47; refine (Hfi.out _).mono ?_; rintro e w2 ⟨rfl, hb2⟩; have hz2 : w.heap.size < w2.heap.size := (by have := hb2.size; simp at this; omega); have hR2 := (Blk.new w 25 [.int .i64 0, .int .i64 0, .int .i64 0, .int .i32 0, .int .i64 0]).below hb2 (by simp); have hB2 : Below w.heap.size w w2 := ((Below.refl _ _).alloc (Nat.le_refl _) _).trans (hb2.mono (by simp)))
    | (go_at_call 48; refine (Hsz.out _).mono ?_; rintro e w3 ⟨rfl, hb3⟩; have hz3 := hb3.size; have hR3 := hR2.below hb3 hz2; have hB3 : Below w.heap.size w w3 := hB2.trans (hb3.mono (by omega)))
    | (go_at_call 49; refine (Hsh.out _).mono ?_; rintro e w4 ⟨rfl, hb4⟩; have hz4 : w3.heap.size < w4.heap.size := (by have := hb4.size; simp at this; omega); have hD4 : RefW w w3.heap.size [.int .i64 op, .int .i64 0, .int .i64 0, .int .i32 0, .int .i64 0] w4 := ⟨by omega, (hB3.alloc hB3.size _).trans (hb4.mono (by simp; omega)), (hR3.alloc _).below hb4 (by simp; omega), (Blk.new w3 _ _).below hb4 (by simp)⟩; obtain ⟨i0, i1, i2, i3, i4⟩ := hD4.ins; have v1 := (hD4.byte (k := o + F + 1) hb).trans hx1)
    | ((with_reducible show wpList _ _ _ (Oper.mk none (Op.store _ (Operand.tmp 76) (Operand.tmp 75)) _ _ _ _ :: _) _ _); refine wpList_storeV hD4 rfl 3 (.tmp 76) (.tmp 75) 1 .i64 (r1 / 16) rfl (by kernel_rfl) (by kernel_rfl) (by simp) (by kernel_rfl) ?_; intro ws5 hD5; obtain ⟨s05, s15, s25, s35, s45⟩ := hD5.ins; have v15 := (hD5.byte (k := o + F + 1) hb).trans hx1)
    | ((with_reducible show wpList _ _ _ (Oper.mk none (Op.store _ (Operand.tmp 82) (Operand.tmp 81)) _ _ _ _ :: _) _ _); refine wpList_storeV hD5 rfl 3 (.tmp 82) (.tmp 81) 2 .i64 (r1 % 16) rfl (by kernel_rfl) (by kernel_rfl) (by simp) (by kernel_rfl) ?_; intro ws6 hD6; obtain ⟨s06, s16, s26, s36, s46⟩ := hD6.ins; have v16 := (hD6.byte (k := o + F + 1) hb).trans hx1)
    | (go_at_call 51; refine (Hch.out _).mono ?_; rintro e w9 ⟨rfl, hb9⟩; have hD9 := hD6.below hb9; obtain ⟨k0, k1, k2, k3, k4⟩ := hD9.ins)
    | ((with_reducible show wpList _ _ _ (Oper.mk none (Op.store _ (Operand.tmp 4) (Operand.tmp 168)) _ _ _ _ :: _) _ _); refine wpList_storeQ hD9.2.1 hD9.2.2.1 rfl 25 (.tmp 4) (.tmp 168) (.int .i64 0) (.int .i64 0) (.int .i64 0) (.int .i32 0) (.int .i64 0) rfl (by kernel_rfl) (by kernel_rfl) (by simp [Value.oneCell']) (by kernel_rfl) ?_; intro w8 hB8 hz8; obtain ⟨z0, z1, z2, z3, z4⟩ := hz8))
  refine bodyPost_ret (v := .tuple #[.agg #[.int .i64 0, .int .i64 0, .int .i64 0, .int .i32 0, .int .i64 0], .int .i64 0, .int .i64 C]) (by simp [results, Tryd.results17, go_sem, z0, z1, z2, z3, z4]) rfl ⟨rfl, hB8⟩

set_option maxRecDepth 20000 in
set_option maxHeartbeats 1000000 in
theorem rdec_4_0_short (b o n c F : Nat) (at_ x op : Int) (w : World) (hop : (op == 0) = false) (h0 : 0 ≤ at_) (h1 : at_ < n) (hF : at_.toNat = F) (hn : (n : Int) ≤ 140737488351232) (hnc : n ≤ c) (hb : b < w.heap.size) (hlen : (n : Int) - at_ < 2)
    (hx : w.cell? ⟨b, o + F, none⟩ = some (.int .u8 x)) 
    (Hfi : Hid (∀ w, Calls Tryd.prog 47 #[.int .u8 x] w fun e w' => e = .returned (.tuple #[.int .i64 op, .int .i64 0]) ∧ Below w.heap.size w w'))
    (Hsz : Hid (∀ w, Calls Tryd.prog 48 #[.int .i64 op, .int .i64 0] w fun e w' => e = .returned (.int .i64 2) ∧ Below w.heap.size w w')) :
    Calls Tryd.prog 17 #[.slice (some ⟨b, o, none⟩) n c, .int .i64 at_] w fun e w' => e = .returned (.tuple #[.agg #[.int .i64 0, .int .i64 0, .int .i64 0, .int .i32 0, .int .i64 0], .int .i64 0, .int .i64 10]) ∧ Below w.heap.size w w' := by
  have g0 : (at_ < 0) = False := by simp; omega
  have g1 : ((n : Int) < at_) = False := by simp; omega
  have g2 : (at_ = (n : Int)) = False := by simp; omega
  have g3 : (at_ == (n : Int)) = false := by simp; omega
  have q3 : (c = F) = False := by simp; omega
  have q2 : (at_ + 2).toNat = F + 2 := by omega
  have hbb : ∀ k, (w.alloc (.cells #[.int .i64 0, .int .i64 0, .int .i64 0, .int .i32 0, .int .i64 0] 25)).cell? ⟨b, k, none⟩ = w.cell? ⟨b, k, none⟩ := fun k => World.cell?_alloc_lt _ _ _ hb
  go_enter Tryd.func17, Tryd.ntmps17
  go_wp2_with (first
    | (go_at_call 47; refine (Hfi.out _).mono ?_; rintro e w2 ⟨rfl, hb2⟩; have hz2 : w.heap.size < w2.heap.size := (by have := hb2.size; simp at this; omega); have hR2 := (Blk.new w 25 [.int .i64 0, .int .i64 0, .int .i64 0, .int .i32 0, .int .i64 0]).below hb2 (by simp); have hB2 : Below w.heap.size w w2 := ((Below.refl _ _).alloc (Nat.le_refl _) _).trans (hb2.mono (by simp)))
    | (go_at_call 48; refine (Hsz.out _).mono ?_; rintro e w3 ⟨rfl, hb3⟩; have hz3 := hb3.size; have hR3 := hR2.below hb3 hz2; have hB3 : Below w.heap.size w w3 := hB2.trans (hb3.mono (by omega)))
    | ((with_reducible show wpList _ _ _ (Oper.mk none (Op.store _ (Operand.tmp 4) (Operand.tmp 47)) _ _ _ _ :: _) _ _); refine wpList_storeQ hB3 hR3 rfl 25 (.tmp 4) (.tmp 47) (.int .i64 0) (.int .i64 0) (.int .i64 0) (.int .i32 0) (.int .i64 0) rfl (by kernel_rfl) (by kernel_rfl) (by simp [Value.oneCell']) (by kernel_rfl) ?_; intro w8 hB8 hz8; obtain ⟨z0, z1, z2, z3, z4⟩ := hz8))
  refine bodyPost_ret (v := .tuple #[.agg #[.int .i64 0, .int .i64 0, .int .i64 0, .int .i32 0, .int .i64 0], .int .i64 0, .int .i64 10]) (by simp [results, Tryd.results17, go_sem, z0, z1, z2, z3, z4]) rfl ⟨rfl, hB8⟩

set_option maxRecDepth 20000 in
set_option maxHeartbeats 1000000 in
theorem rdec_5_0_ok (b o n c F : Nat) (at_ x op : Int) (w : World) (hop : (op == 0) = false) (h0 : 0 ≤ at_) (h1 : at_ < n) (hF : at_.toNat = F) (hn : (n : Int) ≤ 140737488351232) (hnc : n ≤ c) (hb : b < w.heap.size) (hlen : 2 ≤ (n : Int) - at_)
    (hx : w.cell? ⟨b, o + F, none⟩ = some (.int .u8 x)) (r1 : Int) (hr1 : 0 ≤ r1 ∧ r1 < 256) (hx1 : w.cell? ⟨b, o + F + 1, none⟩ = some (.int .u8 r1)) (Hch : Hid (∀ w, Calls Tryd.prog 51 #[.agg #[.int .i64 op, .int .i64 (r1 / 16), .int .i64 (r1 % 16), .int .i32 0, .int .i64 0]] w fun e w' => e = .returned (.int .i64 0) ∧ Below w.heap.size w w')) (Hsh : Hid (∀ w, Calls Tryd.prog 49 #[.int .i64 op] w fun e w' => e = .returned (.int .i64 5) ∧ Below w.heap.size w w'))
    (Hfi : Hid (∀ w, Calls Tryd.prog 47 #[.int .u8 x] w fun e w' => e = .returned (.tuple #[.int .i64 op, .int .i64 0]) ∧ Below w.heap.size w w'))
    (Hsz : Hid (∀ w, Calls Tryd.prog 48 #[.int .i64 op, .int .i64 0] w fun e w' => e = .returned (.int .i64 2) ∧ Below w.heap.size w w')) :
    Calls Tryd.prog 17 #[.slice (some ⟨b, o, none⟩) n c, .int .i64 at_] w fun e w' => e = .returned (.tuple #[.agg #[.int .i64 op, .int .i64 (r1 / 16), .int .i64 (r1 % 16), .int .i32 0, .int .i64 0], .int .i64 2, .int .i64 0]) ∧ Below w.heap.size w w' := by
  have g0 : (at_ < 0) = False := by simp; omega
  have g1 : ((n : Int) < at_) = False := by simp; omega
  have g2 : (at_ = (n : Int)) = False := by simp; omega
  have g3 : (at_ == (n : Int)) = false := by simp; omega
  have q3 : (c = F) = False := by simp; omega
  have q2 : (at_ + 2).toNat = F + 2 := by omega
  have hbb : ∀ k, (w.alloc (.cells #[.int .i64 0, .int .i64 0, .int .i64 0, .int .i32 0, .int .i64 0] 25)).cell? ⟨b, k, none⟩ = w.cell? ⟨b, k, none⟩ := fun k => World.cell?_alloc_lt _ _ _ hb
  have q5 : F + 2 ≤ c := by omega
  have q7 : at_ + 2 ≤ c := by omega
  obtain ⟨hr10, hr11⟩ := hr1
  have han : bits BinOp.and IntKind.u8 r1 15 = r1 % 16 := and15 hr10 hr11
  go_enter Tryd.func17, Tryd.ntmps17
  go_wp2_with (first
    | (go_at_call 47; refine (Hfi.out _).mono ?_; rintro e w2 ⟨rfl, hb2⟩; have hz2 : w.heap.size < w2.heap.size := (by have := hb2.size; simp at this; omega); have hR2 := (Blk.new w 25 [.int .i64 0, .int .i64 0, .int .i64 0, .int .i32 0, .int .i64 0]).below hb2 (by simp); have hB2 : Below w.heap.size w w2 := ((Below.refl _ _).alloc (Nat.le_refl _) _).trans (hb2.mono (by simp)))
    | (go_at_call 48; refine (Hsz.out _).mono ?_; rintro e w3 ⟨rfl, hb3⟩; have hz3 := hb3.size; have hR3 := hR2.below hb3 hz2; have hB3 : Below w.heap.size w w3 := hB2.trans (hb3.mono (by omega)))
    | (go_at_call 49; refine (Hsh.out _).mono ?_; rintro e w4 ⟨rfl, hb4⟩; have hz4 : w3.heap.size < w4.heap.size := (by have := hb4.size; simp at this; omega); have hD4 : RefW w w3.heap.size [.int .i64 op, .int .i64 0, .int .i64 0, .int .i32 0, .int .i64 0] w4 := ⟨by omega, (hB3.alloc hB3.size _).trans (hb4.mono (by simp; omega)), (hR3.alloc _).below hb4 (by simp; omega), (Blk.new w3 _ _).below hb4 (by simp)⟩; obtain ⟨i0, i1, i2, i3, i4⟩ := hD4.ins; have v1 := (hD4.byte (k := o + F + 1) hb).trans hx1)
    | ((with_reducible show wpList _ _ _ (Oper.mk none (Op.store _ (Operand.tmp 76) (Operand.tmp 75)) _ _ _ _ :: _) _ _); refine wpList_storeV hD4 rfl 3 (.tmp 76) (.tmp 75) 1 .i64 (r1 / 16) rfl (by kernel_rfl) (by kernel_rfl) (by simp) (by kernel_rfl) ?_; intro ws5 hD5; obtain ⟨s05, s15, s25, s35, s45⟩ := hD5.ins; have v15 := (hD5.byte (k := o + F + 1) hb).trans hx1)
    | ((with_reducible show wpList _ _ _ (Oper.mk none (Op.store _ (Operand.tmp 82) (Operand.tmp 81)) _ _ _ _ :: _) _ _); refine wpList_storeV hD5 rfl 3 (.tmp 82) (.tmp 81) 2 .i64 (r1 % 16) rfl (by kernel_rfl) (by kernel_rfl) (by simp) (by kernel_rfl) ?_; intro ws6 hD6; obtain ⟨s06, s16, s26, s36, s46⟩ := hD6.ins; have v16 := (hD6.byte (k := o + F + 1) hb).trans hx1)
    | (go_at_call 51; refine (Hch.out _).mono ?_; rintro e w9 ⟨rfl, hb9⟩; have hD9 := hD6.below hb9; obtain ⟨k0, k1, k2, k3, k4⟩ := hD9.ins)
    | ((with_reducible show wpList _ _ _ (Oper.mk none (Op.store _ (Operand.tmp 4) (Operand.tmp 170)) _ _ _ _ :: _) _ _); refine wpList_storeQ hD9.2.1 hD9.2.2.1 rfl 25 (.tmp 4) (.tmp 170) (.int .i64 op) (.int .i64 (r1 / 16)) (.int .i64 (r1 % 16)) (.int .i32 0) (.int .i64 0) rfl (by kernel_rfl) (by kernel_rfl) (by simp [Value.oneCell']) (by kernel_rfl) ?_; intro w8 hB8 hz8; obtain ⟨z0, z1, z2, z3, z4⟩ := hz8))
  refine bodyPost_ret (v := .tuple #[.agg #[.int .i64 op, .int .i64 (r1 / 16), .int .i64 (r1 % 16), .int .i32 0, .int .i64 0], .int .i64 2, .int .i64 0]) (by simp [results, Tryd.results17, go_sem, z0, z1, z2, z3, z4]) rfl ⟨rfl, hB8⟩

set_option maxRecDepth 20000 in
set_option maxHeartbeats 1000000 in
theorem rdec_5_0_bad (b o n c F : Nat) (at_ x op : Int) (w : World) (hop : (op == 0) = false) (h0 : 0 ≤ at_) (h1 : at_ < n) (hF : at_.toNat = F) (hn : (n : Int) ≤ 140737488351232) (hnc : n ≤ c) (hb : b < w.heap.size) (hlen : 2 ≤ (n : Int) - at_)
    (hx : w.cell? ⟨b, o + F, none⟩ = some (.int .u8 x)) (r1 : Int) (hr1 : 0 ≤ r1 ∧ r1 < 256) (hx1 : w.cell? ⟨b, o + F + 1, none⟩ = some (.int .u8 r1)) (C : Int) (hC : (C != 0) = true) (Hch : Hid (∀ w, Calls Tryd.prog 51 #[.agg #[.int .i64 op, .int .i64 (r1 / 16), .int .i64 (r1 % 16), .int .i32 0, .int .i64 0]] w fun e w' => e = .returned (.int .i64 C) ∧ Below w.heap.size w w')) (Hsh : Hid (∀ w, Calls Tryd.prog 49 #[.int .i64 op] w fun e w' => e = .returned (.int .i64 5) ∧ Below w.heap.size w w'))
    (Hfi : Hid (∀ w, Calls Tryd.prog 47 #[.int .u8 x] w fun e w' => e = .returned (.tuple #[.int .i64 op, .int .i64 0]) ∧ Below w.heap.size w w'))
    (Hsz : Hid (∀ w, Calls Tryd.prog 48 #[.int .i64 op, .int .i64 0] w fun e w' => e = .returned (.int .i64 2) ∧ Below w.heap.size w w')) :
    Calls Tryd.prog 17 #[.slice (some ⟨b, o, none⟩) n c, .int .i64 at_] w fun e w' => e = .returned (.tuple #[.agg #[.int .i64 0, .int .i64 0, .int .i64 0, .int .i32 0, .int .i64 0], .int .i64 0, .int .i64 C]) ∧ Below w.heap.size w w' := by
  have g0 : (at_ < 0) = False := by simp; omega
  have g1 : ((n : Int) < at_) = False := by simp; omega
  have g2 : (at_ = (n : Int)) = False := by simp; omega
  have g3 : (at_ == (n : Int)) = false := by simp; omega
  have q3 : (c = F) = False := by simp; omega
  have q2 : (at_ + 2).toNat = F + 2 := by omega
  have hbb : ∀ k, (w.alloc (.cells #[.int .i64 0, .int .i64 0, .int .i64 0, .int .i32 0, .int .i64 0] 25)).cell? ⟨b, k, none⟩ = w.cell? ⟨b, k, none⟩ := fun k => World.cell?_alloc_lt _ _ _ hb
  have q5 : F + 2 ≤ c := by omega
  have q7 : at_ + 2 ≤ c := by omega
  obtain ⟨hr10, hr11⟩ := hr1
  have han : bits BinOp.and IntKind.u8 r1 15 = r1 % 16 := and15 hr10 hr11
  go_enter Tryd.func17, Tryd.ntmps17
  go_wp2_with (first
    | (go_at_call 47; refine (Hfi.out _).mono ?_; rintro e w2 ⟨rfl, hb2⟩; have hz2 : w.heap.size < w2.heap.size := (by have := hb2.size; simp at this; omega); have hR2 := (Blk.new w 25 [.int .i64 0, .int .i64 0, .int .i64 0, .int .i32 0, .int .i64 0]).below hb2 (by simp); have hB2 : Below w.heap.size w w2 := ((Below.refl _ _).alloc (Nat.le_refl _) _).trans (hb2.mono (by simp)))
    | (go_at_call 48; refine (Hsz.out _).mono ?_; rintro e w3 ⟨rfl, hb3⟩; have hz3 := hb3.size; have hR3 := hR2.below hb3 hz2; have hB3 : Below w.heap.size w w3 := hB2.trans (hb3.mono (by omega)))
    | (go_at_call 49; refine (Hsh.out _).mono ?_; rintro e w4 ⟨rfl, hb4⟩; have hz4 : w3.heap.size < w4.heap.size := (by have := hb4.size; simp at this; omega); have hD4 : RefW w w3.heap.size [.int .i64 op, .int .i64 0, .int .i64 0, .int .i32 0, .int .i64 0] w4 := ⟨by omega, (hB3.alloc hB3.size _).trans (hb4.mono (by simp; omega)), (hR3.alloc _).below hb4 (by simp; omega), (Blk.new w3 _ _).below hb4 (by simp)⟩; obtain ⟨i0, i1, i2, i3, i4⟩ := hD4.ins; have v1 := (hD4.byte (k := o + F + 1) hb).trans hx1)
    | ((with_reducible show wpList _ _ _ (Oper.mk none (Op.store _ (Operand.tmp 76) (Operand.tmp 75)) _ _ _ _ :: _) _ _); refine wpList_storeV hD4 rfl 3 (.tmp 76) (.tmp 75) 1 .i64 (r1 / 16) rfl (by kernel_rfl) (by kernel_rfl) (by simp) (by kernel_rfl) ?_; intro ws5 hD5; obtain ⟨s05, s15, s25, s35, s45⟩ := hD5.ins; have v15 := (hD5.byte (k := o + F + 1) hb).trans hx1)
    | ((with_reducible show wpList _ _ _ (Oper.mk none (Op.store _ (Operand.tmp 82) (Operand.tmp 81)) _ _ _ _ :: _) _ _); refine wpList_storeV hD5 rfl 3 (.tmp 82) (.tmp 81) 2 .i64 (r1 % 16) rfl (by kernel_rfl) (by kernel_rfl) (by simp) (by kernel_rfl) ?_; intro ws6 hD6; obtain ⟨s06, s16, s26, s36, s46⟩ := hD6.ins; have v16 := (hD6.byte (k := o + F + 1) hb).trans hx1)
    | (go_at_call 51; refine (Hch.out _).mono ?_; rintro e w9 ⟨rfl, hb9⟩; have hD9 := hD6.below hb9; obtain ⟨k0, k1, k2, k3, k4⟩ := hD9.ins)
    | ((with_reducible show wpList _ _ _ (Oper.mk none (Op.store _ (Operand.tmp 4) (Operand.tmp 168)) _ _ _ _ :: _) _ _); refine wpList_storeQ hD9.2.1 hD9.2.2.1 rfl 25 (.tmp 4) (.tmp 168) (.int .i64 0) (.int .i64 0) (.int .i64 0) (.int .i32 0) (.int .i64 0) rfl (by kernel_rfl) (by kernel_rfl) (by simp [Value.oneCell']) (by kernel_rfl) ?_; intro w8 hB8 hz8; obtain ⟨z0, z1, z2, z3, z4⟩ := hz8))
  refine bodyPost_ret (v := .tuple #[.agg #[.int .i64 0, .int .i64 0, .int .i64 0, .int .i32 0, .int .i64 0], .int .i64 0, .int .i64 C]) (by simp [results, Tryd.results17, go_sem, z0, z1, z2, z3, z4]) rfl ⟨rfl, hB8⟩

set_option maxRecDepth 20000 in
set_option maxHeartbeats 1000000 in
theorem rdec_5_0_short (b o n c F : Nat) (at_ x op : Int) (w : World) (hop : (op == 0) = false) (h0 : 0 ≤ at_) (h1 : at_ < n) (hF : at_.toNat = F) (hn : (n : Int) ≤ 140737488351232) (hnc : n ≤ c) (hb : b < w.heap.size) (hlen : (n : Int) - at_ < 2)
    (hx : w.cell? ⟨b, o + F, none⟩ = some (.int .u8 x)) 
    (Hfi : Hid (∀ w, Calls Tryd.prog 47 #[.int .u8 x] w fun e w' => e = .returned (.tuple #[.int .i64 op, .int .i64 0]) ∧ Below w.heap.size w w'))
    (Hsz : Hid (∀ w, Calls Tryd.prog 48 #[.int .i64 op, .int .i64 0] w fun e w' => e = .returned (.int .i64 2) ∧ Below w.heap.size w w')) :
    Calls Tryd.prog 17 #[.slice (some ⟨b, o, none⟩) n c, .int .i64 at_] w fun e w' => e = .returned (.tuple #[.agg #[.int .i64 0, .int .i64 0, .int .i64 0, .int .i32 0, .int .i64 0], .int .i64 0, .int .i64 10]) ∧ Below w.heap.size w w' := by
  have g0 : (at_ < 0) = False := by simp; omega
  have g1 : ((n : Int) < at_) = False := by simp; omega
  have g2 : (at_ = (n : Int)) = False := by simp; omega
  have g3 : (at_ == (n : Int)) = false := by simp; omega
  have q3 : (c = F) = False := by simp; omega
  have q2 : (at_ + 2).toNat = F + 2 := by omega
  have hbb : ∀ k, (w.alloc (.cells #[.int .i64 0, .int .i64 0, .int .i64 0, .int .i32 0, .int .i64 0] 25)).cell? ⟨b, k, none⟩ = w.cell? ⟨b, k, none⟩ := fun k => World.cell?_alloc_lt _ _ _ hb
  go_enter Tryd.func17, Tryd.ntmps17
  go_wp2_with (first
    | (go_at_call 47; refine (Hfi.out _).mono ?_; rintro e w2 ⟨rfl, hb2⟩; have hz2 : w.heap.size < w2.heap.size := (by have := hb2.size; simp at this; omega); have hR2 := (Blk.new w 25 [.int .i64 0, .int .i64 0, .int .i64 0, .int .i32 0, .int .i64 0]).below hb2 (by simp); have hB2 : Below w.heap.size w w2 := ((Below.refl _ _).alloc (Nat.le_refl _) _).trans (hb2.mono (by simp)))
    | (go_at_call 48; refine (Hsz.out _).mono ?_; rintro e w3 ⟨rfl, hb3⟩; have hz3 := hb3.size; have hR3 := hR2.below hb3 hz2; have hB3 : Below w.heap.size w w3 := hB2.trans (hb3.mono (by omega)))
    | ((with_reducible show wpList _ _ _ (Oper.mk none (Op.store _ (Operand.tmp 4) (Operand.tmp 47)) _ _ _ _ :: _) _ _); refine wpList_storeQ hB3 hR3 rfl 25 (.tmp 4) (.tmp 47) (.int .i64 0) (.int .i64 0) (.int .i64 0) (.int .i32 0) (.int .i64 0) rfl (by kernel_rfl) (by kernel_rfl) (by simp [Value.oneCell']) (by kernel_rfl) ?_; intro w8 hB8 hz8; obtain ⟨z0, z1, z2, z3, z4⟩ := hz8))
  refine bodyPost_ret (v := .tuple #[.agg #[.int .i64 0, .int .i64 0, .int .i64 0, .int .i32 0, .int .i64 0], .int .i64 0, .int .i64 10]) (by simp [results, Tryd.results17, go_sem, z0, z1, z2, z3, z4]) rfl ⟨rfl, hB8⟩

set_option maxRecDepth 20000 in
set_option maxHeartbeats 1000000 in
theorem rdec_6_0_ok (b o n c F : Nat) (at_ x op : Int) (w : World) (hop : (op == 0) = false) (h0 : 0 ≤ at_) (h1 : at_ < n) (hF : at_.toNat = F) (hn : (n : Int) ≤ 140737488351232) (hnc : n ≤ c) (hb : b < w.heap.size) (hlen : 2 ≤ (n : Int) - at_)
    (hx : w.cell? ⟨b, o + F, none⟩ = some (.int .u8 x)) (r1 : Int) (hr1 : 0 ≤ r1 ∧ r1 < 256) (hx1 : w.cell? ⟨b, o + F + 1, none⟩ = some (.int .u8 r1)) (Hch : Hid (∀ w, Calls Tryd.prog 51 #[.agg #[.int .i64 op, .int .i64 (r1 / 16), .int .i64 (r1 % 16), .int .i32 0, .int .i64 0]] w fun e w' => e = .returned (.int .i64 0) ∧ Below w.heap.size w w')) (Hsh : Hid (∀ w, Calls Tryd.prog 49 #[.int .i64 op] w fun e w' => e = .returned (.int .i64 6) ∧ Below w.heap.size w w'))
    (Hfi : Hid (∀ w, Calls Tryd.prog 47 #[.int .u8 x] w fun e w' => e = .returned (.tuple #[.int .i64 op, .int .i64 0]) ∧ Below w.heap.size w w'))
    (Hsz : Hid (∀ w, Calls Tryd.prog 48 #[.int .i64 op, .int .i64 0] w fun e w' => e = .returned (.int .i64 2) ∧ Below w.heap.size w w')) :
    Calls Tryd.prog 17 #[.slice (some ⟨b, o, none⟩) n c, .int .i64 at_] w fun e w' => e = .returned (.tuple #[.agg #[.int .i64 op, .int .i64 (r1 / 16), .int .i64 (r1 % 16), .int .i32 0, .int .i64 0], .int .i64 2, .int .i64 0]) ∧ Below w.heap.size w w' := by
  have g0 : (at_ < 0) = False := by simp; omega
  have g1 : ((n : Int) < at_) = False := by simp; omega
  have g2 : (at_ = (n : Int)) = False := by simp; omega
  have g3 : (at_ == (n : Int)) = false := by simp; omega
  have q3 : (c = F) = False := by simp; omega
  have q2 : (at_ + 2).toNat = F + 2 := by omega
  have hbb : ∀ k, (w.alloc (.cells #[.int .i64 0, .int .i64 0, .int .i64 0, .int .i32 0, .int .i64 0] 25)).cell? ⟨b, k, none⟩ = w.cell? ⟨b, k, none⟩ := fun k => World.cell?_alloc_lt _ _ _ hb
  have q5 : F + 2 ≤ c := by omega
  have q7 : at_ + 2 ≤ c := by omega
  obtain ⟨hr10, hr11⟩ := hr1
  have han : bits BinOp.and IntKind.u8 r1 15 = r1 % 16 := and15 hr10 hr11
  go_enter Tryd.func17, Tryd.ntmps17
  go_wp2_with (first
    | (go_at_call 47; refine (Hfi.out _).mono ?_; rintro e w2 ⟨rfl, hb2⟩; have hz2 : w.heap.size < w2.heap.size := (by have := hb2.size; simp at this; omega); have hR2 := (Blk.new w 25 [.int .i64 0, .int .i64 0, .int .i64 0, .int .i32 0, .int .i64 0]).below hb2 (by simp); have hB2 : Below w.heap.size w w2 := ((Below.refl _ _).alloc (Nat.le_refl _) _).trans (hb2.mono (by simp)))
    | (go_at_call 48; refine (Hsz.out _).mono ?_; rintro e w3 ⟨rfl, hb3⟩; have hz3 := hb3.size; have hR3 := hR2.below hb3 hz2; have hB3 : Below w.heap.size w w3 := hB2.trans (hb3.mono (by omega)))
    | (go_at_call 49; refine (Hsh.out _).mono ?_; rintro e w4 ⟨rfl, hb4⟩; have hz4 : w3.heap.size < w4.heap.size := (by have := hb4.size; simp at this; omega); have hD4 : RefW w w3.heap.size [.int .i64 op, .int .i64 0, .int .i64 0, .int .i32 0, .int .i64 0] w4 := ⟨by omega, (hB3.alloc hB3.size _).trans (hb4.mono (by simp; omega)), (hR3.alloc _).below hb4 (by simp; omega), (Blk.new w3 _ _).below hb4 (by simp)⟩; obtain ⟨i0, i1, i2, i3, i4⟩ := hD4.ins; have v1 := (hD4.byte (k := o + F + 1) hb).trans hx1)
    | ((with_reducible show wpList _ _ _ (Oper.mk none (Op.store _ (Operand.tmp 76) (Operand.tmp 75)) _ _ _ _ :: _) _ _); refine wpList_storeV hD4 rfl 3 (.tmp 76) (.tmp 75) 1 .i64 (r1 / 16) rfl (by kernel_rfl) (by kernel_rfl) (by simp) (by kernel_rfl) ?_; intro ws5 hD5; obtain ⟨s05, s15, s25, s35, s45⟩ := hD5.ins; have v15 := (hD5.byte (k := o + F + 1) hb).trans hx1)
    | ((with_reducible show wpList _ _ _ (Oper.mk none (Op.store _ (Operand.tmp 82) (Operand.tmp 81)) _ _ _ _ :: _) _ _); refine wpList_storeV hD5 rfl 3 (.tmp 82) (.tmp 81) 2 .i64 (r1 % 16) rfl (by kernel_rfl) (by kernel_rfl) (by simp) (by kernel_rfl) ?_; intro ws6 hD6; obtain ⟨s06, s16, s26, s36, s46⟩ := hD6.ins; have v16 := (hD6.byte (k := o + F + 1) hb).trans hx1)
    | (go_at_call 51; refine (Hch.out _).mono ?_; rintro e w9 ⟨rfl, hb9⟩; have hD9 := hD6.below hb9; obtain ⟨k0, k1, k2, k3, k4⟩ := hD9.ins)
    | ((with_reducible show wpList _ _ _ (Oper.mk none (Op.store _ (Operand.tmp 4) (Operand.tmp 170)) _ _ _ _ :: _) _ _); refine wpList_storeQ hD9.2.1 hD9.2.2.1 rfl 25 (.tmp 4) (.tmp 170) (.int .i64 op) (.int .i64 (r1 / 16)) (.int .i64 (r1 % 16)) (.int .i32 0) (.int .i64 0) rfl (by kernel_rfl) (by kernel_rfl) (by simp [Value.oneCell']) (by kernel_rfl) ?_; intro w8 hB8 hz8; obtain ⟨z0, z1, z2, z3, z4⟩ := hz8))
  refine bodyPost_ret (v := .tuple #[.agg #[.int .i64 op, .int .i64 (r1 / 16), .int .i64 (r1 % 16), .int .i32 0, .int .i64 0], .int .i64 2, .int .i64 0]) (by simp [results, Tryd.results17, go_sem, z0, z1, z2, z3, z4]) rfl ⟨rfl, hB8⟩

set_option maxRecDepth 20000 in
set_option maxHeartbeats 1000000 in
theorem rdec_6_0_bad (b o n c F : Nat) (at_ x op : Int) (w : World) (hop : (op == 0) = false) (h0 : 0 ≤ at_) (h1 : at_ < n) (hF : at_.toNat = F) (hn : (n : Int) ≤ 140737488351232) (hnc : n ≤ c) (hb : b < w.heap.size) (hlen : 2 ≤ (n : Int) - at_)
    (hx : w.cell? ⟨b, o + F, none⟩ = some (.int .u8 x)) (r1 : Int) (hr1 : 0 ≤ r1 ∧ r1 < 256) (hx1 : w.cell? ⟨b, o + F + 1, none⟩ = some (.int .u8 r1)) (C : Int) (hC : (C != 0) = true) (Hch : Hid (∀ w, Calls Tryd.prog 51 #[.agg #[.int .i64 op, .int .i64 (r1 / 16), .int .i64 (r1 % 16), .int .i32 0, .int .i64 0]] w fun e w' => e = .returned (.int .i64 C) ∧ Below w.heap.size w w')) (Hsh : Hid (∀ w, Calls Tryd.prog 49 #[.int .i64 op] w fun e w' => e = .returned (.int .i64 6) ∧ Below w.heap.size w w'))
    (Hfi : Hid (∀ w, Calls Tryd.prog 47 #[.int .u8 x] w fun e w' => e = .returned (.tuple #[.int .i64 op, .int .i64 0]) ∧ Below w.heap.size w w'))
    (Hsz : Hid (∀ w, Calls Tryd.prog 48 #[.int .i64 op, .int .i64 0] w fun e w' => e = .returned (.int .i64 2) ∧ Below w.heap.size w w')) :
    Calls Tryd.prog 17 #[.slice (some ⟨b, o, none⟩) n c, .int .i64 at_] w fun e w' => e = .returned (.tuple #[.agg #[.int .i64 0, .int .i64 0, .int .i64 0, .int .i32 0, .int .i64 0], .int .i64 0, .int .i64 C]) ∧ Below w.heap.size w w' := by
  have g0 : (at_ < 0) = False := by simp; omega
  have g1 : ((n : Int) < at_) = False := by simp; omega
  have g2 : (at_ = (n : Int)) = False := by simp; omega
  have g3 : (at_ == (n : Int)) = false := by simp; omega
  have q3 : (c = F) = False := by simp; omega
  have q2 : (at_ + 2).toNat = F + 2 := by omega
  have hbb : ∀ k, (w.alloc (.cells #[.int .i64 0, .int .i64 0, .int .i64 0, .int .i32 0, .int .i64 0] 25)).cell? ⟨b, k, none⟩ = w.cell? ⟨b, k, none⟩ := fun k => World.cell?_alloc_lt _ _ _ hb
  have q5 : F + 2 ≤ c := by omega
  have q7 : at_ + 2 ≤ c := by omega
  obtain ⟨hr10, hr11⟩ := hr1
  have han : bits BinOp.and IntKind.u8 r1 15 = r1 % 16 := and15 hr10 hr11
  go_enter Tryd.func17, Tryd.ntmps17
  go_wp2_with (first
    | (go_at_call 47; refine (Hfi.out _).mono ?_; rintro e w2 ⟨rfl, hb2⟩; have hz2 : w.heap.size < w2.heap.size := (by have := hb2.size; simp at this; omega); have hR2 := (Blk.new w 25 [.int .i64 0, .int .i64 0, .int .i64 0, .int .i32 0, .int .i64 0]).below hb2 (by simp); have hB2 : Below w.heap.size w w2 := ((Below.refl _ _).alloc (Nat.le_refl _) _).trans (hb2.mono (by simp)))
    | (go_at_call 48; refine (Hsz.out _).mono ?_; rintro e w3 ⟨rfl, hb3⟩; have hz3 := hb3.size; have hR3 := hR2.below hb3 hz2; have hB3 : Below w.heap.size w w3 := hB2.trans (hb3.mono (by omega)))
    | (go_at_call 49; refine (Hsh.out _).mono ?_; rintro e w4 ⟨rfl, hb4⟩; have hz4 : w3.heap.size < w4.heap.size := (by have := hb4.size; simp at this; omega); have hD4 : RefW w w3.heap.size [.int .i64 op, .int .i64 0, .int .i64 0, .int .i32 0, .int .i64 0] w4 := ⟨by omega, (hB3.alloc hB3.size _).trans (hb4.mono (by simp; omega)), (hR3.alloc _).below hb4 (by simp; omega), (Blk.new w3 _ _).below hb4 (by simp)⟩; obtain ⟨i0, i1, i2, i3, i4⟩ := hD4.ins; have v1 := (hD4.byte (k := o + F + 1) hb).trans hx1)
    | ((with_reducible show wpList _ _ _ (Oper.mk none (Op.store _ (Operand.tmp 76) (Operand.tmp 75)) _ _ _ _ :: _) _ _); refine wpList_storeV hD4 rfl 3 (.tmp 76) (.tmp 75) 1 .i64 (r1 / 16) rfl (by kernel_rfl) (by kernel_rfl) (by simp) (by kernel_rfl) ?_; intro ws5 hD5; obtain ⟨s05, s15, s25, s35, s45⟩ := hD5.ins; have v15 := (hD5.byte (k := o + F + 1) hb).trans hx1)
    | ((with_reducible show wpList _ _ _ (Oper.mk none (Op.store _ (Operand.tmp 82) (Operand.tmp 81)) _ _ _ _ :: _) _ _); refine wpList_storeV hD5 rfl 3 (.tmp 82) (.tmp 81) 2 .i64 (r1 % 16) rfl (by kernel_rfl) (by kernel_rfl) (by simp) (by kernel_rfl) ?_; intro ws6 hD6; obtain ⟨s06, s16, s26, s36, s46⟩ := hD6.ins; have v16 := (hD6.byte (k := o + F + 1) hb).trans hx1)
    | (go_at_call 51; refine (Hch.out _).mono ?_; rintro e w9 ⟨rfl, hb9⟩; have hD9 := hD6.below hb9; obtain ⟨k0, k1, k2, k3, k4⟩ := hD9.ins)
    | ((with_reducible show wpList _ _ _ (Oper.mk none (Op.store _ (Operand.tmp 4) (Operand.tmp 168)) _ _ _ _ :: _) _ _); refine wpList_storeQ hD9.2.1 hD9.2.2.1 rfl 25 (.tmp 4) (.tmp 168) (.int .i64 0) (.int .i64 0) (.int .i64 0) (.int .i32 0) (.int .i64 0) rfl (by kernel_rfl) (by kernel_rfl) (by simp [Value.oneCell']) (by kernel_rfl) ?_; intro w8 hB8 hz8; obtain ⟨z0, z1, z2, z3, z4⟩ := hz8))
  refine bodyPost_ret (v := .tuple #[.agg #[.int .i64 0, .int .i64 0, .int .i64 0, .int .i32 0, .int .i64 0], .int .i64 0, .int .i64 C]) (by simp [results, Tryd.results17, go_sem, z0, z1, z2, z3, z4]) rfl ⟨rfl, hB8⟩

set_option maxRecDepth 20000 in
set_option maxHeartbeats 1000000 in
theorem rdec_6_0_short (b o n c F : Nat) (at_ x op : Int) (w : World) (hop : (op == 0) = false) (h0 : 0 ≤ at_) (h1 : at_ < n) (hF : at_.toNat = F) (hn : (n : Int) ≤ 140737488351232) (hnc : n ≤ c) (hb : b < w.heap.size) (hlen : (n : Int) - at_ < 2)
    (hx : w.cell? ⟨b, o + F, none⟩ = some (.int .u8 x)) 
    (Hfi : Hid (∀ w, Calls Tryd.prog 47 #[.int .u8 x] w fun e w' => e = .returned (.tuple #[.int .i64 op, .int .i64 0]) ∧ Below w.heap.size w w'))
    (Hsz : Hid (∀ w, Calls Tryd.prog 48 #[.int .i64 op, .int .i64 0] w fun e w' => e = .returned (.int .i64 2) ∧ Below w.heap.size w w')) :
    Calls Tryd.prog 17 #[.slice (some ⟨b, o, none⟩) n c, .int .i64 at_] w fun e w' => e = .returned (.tuple #[.agg #[.int .i64 0, .int .i64 0, .int .i64 0, .int .i32 0, .int .i64 0], .int .i64 0, .int .i64 10]) ∧ Below w.heap.size w w' := by
  have g0 : (at_ < 0) = False := by simp; omega
  have g1 : ((n : Int) < at_) = False := by simp; omega
  have g2 : (at_ = (n : Int)) = False := by simp; omega
  have g3 : (at_ == (n : Int)) = false := by simp; omega
  have q3 : (c = F) = False := by simp; omega
  have q2 : (at_ + 2).toNat = F + 2 := by omega
  have hbb : ∀ k, (w.alloc (.cells #[.int .i64 0, .int .i64 0, .int .i64 0, .int .i32 0, .int .i64 0] 25)).cell? ⟨b, k, none⟩ = w.cell? ⟨b, k, none⟩ := fun k => World.cell?_alloc_lt _ _ _ hb
  go_enter Tryd.func17, Tryd.ntmps17
  go_wp2_with (first
    | (go_at_call 47; refine (Hfi.out _).mono ?_; rintro e w2 ⟨rfl, hb2⟩; have hz2 : w.heap.size < w2.heap.size := (by have := hb2.size; simp at this; omega); have hR2 := (Blk.new w 25 [.int .i64 0, .int .i64 0, .int .i64 0, .int .i32 0, .int .i64 0]).below hb2 (by simp); have hB2 : Below w.heap.size w w2 := ((Below.refl _ _).alloc (Nat.le_refl _) _).trans (hb2.mono (by simp)))
    | (go_at_call 48; refine (Hsz.out _).mono ?_; rintro e w3 ⟨rfl, hb3⟩; have hz3 := hb3.size; have hR3 := hR2.below hb3 hz2; have hB3 : Below w.heap.size w w3 := hB2.trans (hb3.mono (by omega)))
    | ((with_reducible show wpList _ _ _ (Oper.mk none (Op.store _ (Operand.tmp 4) (Operand.tmp 47)) _ _ _ _ :: _) _ _); refine wpList_storeQ hB3 hR3 rfl 25 (.tmp 4) (.tmp 47) (.int .i64 0) (.int .i64 0) (.int .i64 0) (.int .i32 0) (.int .i64 0) rfl (by kernel_rfl) (by kernel_rfl) (by simp [Value.oneCell']) (by kernel_rfl) ?_; intro w8 hB8 hz8; obtain ⟨z0, z1, z2, z3, z4⟩ := hz8))
  refine bodyPost_ret (v := .tuple #[.agg #[.int .i64 0, .int .i64 0, .int .i64 0, .int .i32 0, .int .i64 0], .int .i64 0, .int .i64 10]) (by simp [results, Tryd.results17, go_sem, z0, z1, z2, z3, z4]) rfl ⟨rfl, hB8⟩
end Go.Proofs.YthcjnkakfpmpbaaDoor
