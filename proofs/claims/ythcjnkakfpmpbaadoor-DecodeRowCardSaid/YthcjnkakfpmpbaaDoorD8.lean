/- The walk of decode's Decode, by shapes: D8. Conditions: none. -/
import Derived.Test.YthcjnkakfpmpbaaDoorD4
namespace Go.Proofs.YthcjnkakfpmpbaaDoor
open Go.RowKit
set_option linter.unusedVariables false
set_option linter.unusedSimpArgs false

set_option maxHeartbeats 1000000 in
theorem dec_12_1_ok (b o n c F m : Nat) (at_ x : Int) (op B : Int) (N : ByteArray) (w : World) (hT : TabIs 0 w) (h0 : 0 ≤ at_) (h1 : at_ < n) (hn : (n : Int) ≤ 140737488351232) (hnc : n ≤ c) (hb : b < w.heap.size)
    (hF : (at_ + 1).toNat = F) (hm : n - F = m) (hcF : (c = F) = False) (hmI : (n : Int) - (F : Int) = m) (hcap : F ≤ n) (hlen : 1 ≤ (m : Int))
    (hx : w.cell? ⟨b, o + at_.toNat, none⟩ = some (.int .u8 x)) (NV : Int) (Hto : Hid (∀ w', (∀ k, w'.cell? ⟨b, k, none⟩ = w.cell? ⟨b, k, none⟩) → b < w'.heap.size → Calls Tryd.prog 45 #[.slice (some ⟨b, o + F, none⟩) m (c - F), .int .i64 0, .int .i64 1, .int .i64 12] w' fun e w'' => e = .returned (.int .i32 NV) ∧ w' = w'')) (Hch : Hid (∀ w, TabIs 0 w → Calls Tryd.prog 46 #[.agg #[.int .i64 op, .int .i64 0, .int .i64 0, .int .i32 NV, .int .i64 1]] w fun e w' => e = .returned (.int .i64 0) ∧ Below w.heap.size w w'))
    (Hfi : Hid (∀ w, TabIs 0 w → Calls Tryd.prog 44 #[.int .u8 x] w fun e w' => e = .returned (.tuple #[.int .i64 op, .agg #[.string N, .int .u8 B, .int .i64 12], .int .i64 1, .bool true]) ∧ Below w.heap.size w w')) :
    Calls Tryd.prog 16 #[.slice (some ⟨b, o, none⟩) n c, .int .i64 at_] w fun e w' => e = .returned (.tuple #[.agg #[.int .i64 op, .int .i64 0, .int .i64 0, .int .i32 NV, .int .i64 1], .int .i64 2, .int .i64 0]) ∧ Below w.heap.size w w' := by
  have g0 : (at_ < 0) = False := by simp; omega
  have g1 : ((n : Int) < at_) = False := by simp; omega
  have g2 : (at_ = (n : Int)) = False := by simp; omega
  have g3 : (at_ == (n : Int)) = false := by simp; omega
  have hbb : ∀ k, (((w.alloc (.cells #[.int .i64 0, .int .i64 0, .int .i64 0, .int .i32 0, .int .i64 0] 25)).alloc (.cells #[.int .i64 0, .int .i64 0, .int .i64 0, .int .i32 0, .int .i64 0] 25)).alloc (.cells #[.string ⟨#[]⟩, .int .u8 0, .int .i64 0] 97)).cell? ⟨b, k, none⟩ = w.cell? ⟨b, k, none⟩ := by
    intro k
    rw [World.cell?_alloc_lt _ _ _ (by simp; omega), World.cell?_alloc_lt _ _ _ (by simp; omega), World.cell?_alloc_lt _ _ _ hb]
  go_enter Tryd.func16, Tryd.ntmps16
  go_wp2
  refine wp_scope_n (c' := decBody) 4 (by kernel_rfl) ?_
  go_wp2_with (first
    | (go_at_call 44; refine (Hfi.out _ (((hT.alloc _).alloc _).alloc _)).mono ?_; rintro e w2 ⟨rfl, hb2⟩; have hD2 := (DecW.init w).below hb2)
    | ((with_reducible show wpList _ _ _ (Oper.mk none (Op.store _ (Operand.tmp 37) (Operand.tmp 33)) _ _ _ _ :: _) _ _); refine wpList_storeI hD2 rfl 3 (.tmp 37) (.tmp 33) 0 .i64 op rfl (by kernel_rfl) (by kernel_rfl) (by simp) (by kernel_rfl) ?_; intro w3 hD3)
    | ((with_reducible show wpList _ _ _ (Oper.mk none (Op.store _ (Operand.tmp 8) (Operand.tmp 34)) _ _ _ _ :: _) _ _); refine wpList_storeX hD3 rfl 97 (.tmp 8) (.tmp 34) (.string N) (.int .u8 B) (.int .i64 12) rfl (by kernel_rfl) (by kernel_rfl) (by simp [Value.oneCell']) (by kernel_rfl) ?_; intro w4 hD4)
    | ((with_reducible show wpList _ _ _ (Oper.mk none (Op.store _ (Operand.tmp 38) (Operand.tmp 35)) _ _ _ _ :: _) _ _); refine wpList_storeI hD4 rfl 3 (.tmp 38) (.tmp 35) 4 .i64 1 rfl (by kernel_rfl) (by kernel_rfl) (by simp) (by kernel_rfl) ?_; intro w5 hD5; obtain ⟨i0, i1, i2, i3, i4⟩ := hD5.ins; obtain ⟨x1, x2⟩ := hD5.op))
  go_step3
  refine jump_to (by kernel_rfl) ?_
  conv in restOf _ _ => whnf
  go_wp2_with (first
    | (go_at_call 45; refine (Hto.out _ (fun k => hD5.byte hb) (by have := hD5.1.size; omega)).mono ?_; rintro e wt ⟨rfl, rfl⟩)
    | ((with_reducible show wpList _ _ _ (Oper.mk none (Op.store _ (Operand.tmp 97) (Operand.tmp 96)) _ _ _ _ :: _) _ _); refine wpList_storeI hD5 rfl 21 (.tmp 97) (.tmp 96) 3 .i32 NV rfl (by kernel_rfl) (by kernel_rfl) (by simp) (by kernel_rfl) ?_; intro w6 hD6; obtain ⟨m0, m1, m2, m3, m4⟩ := hD6.ins))
  go_step3
  refine jump_to (by kernel_rfl) ?_
  conv in restOf _ _ => whnf
  go_wp2_with (first
    | (go_at_call 46; refine (Hch.out _ (hD6.tab hT)).mono ?_; rintro e w9 ⟨rfl, hb9⟩; have hD9 := hD6.below hb9; obtain ⟨k0, k1, k2, k3, k4⟩ := hD9.ins)
    | ((with_reducible show wpList _ _ _ (Oper.mk none (Op.store _ (Operand.tmp 4) (Operand.tmp 140)) _ _ _ _ :: _) _ _); refine wpList_storeR hD9 rfl 25 (.tmp 4) (.tmp 140) (.int .i64 op) (.int .i64 0) (.int .i64 0) (.int .i32 NV) (.int .i64 1) rfl (by kernel_rfl) (by kernel_rfl) (by simp [Value.oneCell']) (by kernel_rfl) ?_; intro w8 hB8 hz8; obtain ⟨z0, z1, z2, z3, z4⟩ := hz8))
  rw [jumpQ_ret]
  refine bodyPost_ret (v := .tuple #[.agg #[.int .i64 op, .int .i64 0, .int .i64 0, .int .i32 NV, .int .i64 1], .int .i64 2, .int .i64 0]) (by simp [results, Tryd.results16, go_sem, z0, z1, z2, z3, z4]) rfl ⟨rfl, hB8⟩

set_option maxHeartbeats 1000000 in
theorem dec_12_1_bad (b o n c F m : Nat) (at_ x : Int) (op B : Int) (N : ByteArray) (w : World) (hT : TabIs 0 w) (h0 : 0 ≤ at_) (h1 : at_ < n) (hn : (n : Int) ≤ 140737488351232) (hnc : n ≤ c) (hb : b < w.heap.size)
    (hF : (at_ + 1).toNat = F) (hm : n - F = m) (hcF : (c = F) = False) (hmI : (n : Int) - (F : Int) = m) (hcap : F ≤ n) (hlen : 1 ≤ (m : Int))
    (hx : w.cell? ⟨b, o + at_.toNat, none⟩ = some (.int .u8 x)) (NV : Int) (Hto : Hid (∀ w', (∀ k, w'.cell? ⟨b, k, none⟩ = w.cell? ⟨b, k, none⟩) → b < w'.heap.size → Calls Tryd.prog 45 #[.slice (some ⟨b, o + F, none⟩) m (c - F), .int .i64 0, .int .i64 1, .int .i64 12] w' fun e w'' => e = .returned (.int .i32 NV) ∧ w' = w'')) (C : Int) (hC : (C == 0) = false) (Hch : Hid (∀ w, TabIs 0 w → Calls Tryd.prog 46 #[.agg #[.int .i64 op, .int .i64 0, .int .i64 0, .int .i32 NV, .int .i64 1]] w fun e w' => e = .returned (.int .i64 C) ∧ Below w.heap.size w w'))
    (Hfi : Hid (∀ w, TabIs 0 w → Calls Tryd.prog 44 #[.int .u8 x] w fun e w' => e = .returned (.tuple #[.int .i64 op, .agg #[.string N, .int .u8 B, .int .i64 12], .int .i64 1, .bool true]) ∧ Below w.heap.size w w')) :
    Calls Tryd.prog 16 #[.slice (some ⟨b, o, none⟩) n c, .int .i64 at_] w fun e w' => e = .returned (.tuple #[.agg #[.int .i64 0, .int .i64 0, .int .i64 0, .int .i32 0, .int .i64 0], .int .i64 0, .int .i64 C]) ∧ Below w.heap.size w w' := by
  have g0 : (at_ < 0) = False := by simp; omega
  have g1 : ((n : Int) < at_) = False := by simp; omega
  have g2 : (at_ = (n : Int)) = False := by simp; omega
  have g3 : (at_ == (n : Int)) = false := by simp; omega
  have hbb : ∀ k, (((w.alloc (.cells #[.int .i64 0, .int .i64 0, .int .i64 0, .int .i32 0, .int .i64 0] 25)).alloc (.cells #[.int .i64 0, .int .i64 0, .int .i64 0, .int .i32 0, .int .i64 0] 25)).alloc (.cells #[.string ⟨#[]⟩, .int .u8 0, .int .i64 0] 97)).cell? ⟨b, k, none⟩ = w.cell? ⟨b, k, none⟩ := by
    intro k
    rw [World.cell?_alloc_lt _ _ _ (by simp; omega), World.cell?_alloc_lt _ _ _ (by simp; omega), World.cell?_alloc_lt _ _ _ hb]
  go_enter Tryd.func16, Tryd.ntmps16
  go_wp2
  refine wp_scope_n (c' := decBody) 4 (by kernel_rfl) ?_
  go_wp2_with (first
    | (go_at_call 44; refine (Hfi.out _ (((hT.alloc _).alloc _).alloc _)).mono ?_; rintro e w2 ⟨rfl, hb2⟩; have hD2 := (DecW.init w).below hb2)
    | ((with_reducible show wpList _ _ _ (Oper.mk none (Op.store _ (Operand.tmp 37) (Operand.tmp 33)) _ _ _ _ :: _) _ _); refine wpList_storeI hD2 rfl 3 (.tmp 37) (.tmp 33) 0 .i64 op rfl (by kernel_rfl) (by kernel_rfl) (by simp) (by kernel_rfl) ?_; intro w3 hD3)
    | ((with_reducible show wpList _ _ _ (Oper.mk none (Op.store _ (Operand.tmp 8) (Operand.tmp 34)) _ _ _ _ :: _) _ _); refine wpList_storeX hD3 rfl 97 (.tmp 8) (.tmp 34) (.string N) (.int .u8 B) (.int .i64 12) rfl (by kernel_rfl) (by kernel_rfl) (by simp [Value.oneCell']) (by kernel_rfl) ?_; intro w4 hD4)
    | ((with_reducible show wpList _ _ _ (Oper.mk none (Op.store _ (Operand.tmp 38) (Operand.tmp 35)) _ _ _ _ :: _) _ _); refine wpList_storeI hD4 rfl 3 (.tmp 38) (.tmp 35) 4 .i64 1 rfl (by kernel_rfl) (by kernel_rfl) (by simp) (by kernel_rfl) ?_; intro w5 hD5; obtain ⟨i0, i1, i2, i3, i4⟩ := hD5.ins; obtain ⟨x1, x2⟩ := hD5.op))
  go_step3
  refine jump_to (by kernel_rfl) ?_
  conv in restOf _ _ => whnf
  go_wp2_with (first
    | (go_at_call 45; refine (Hto.out _ (fun k => hD5.byte hb) (by have := hD5.1.size; omega)).mono ?_; rintro e wt ⟨rfl, rfl⟩)
    | ((with_reducible show wpList _ _ _ (Oper.mk none (Op.store _ (Operand.tmp 97) (Operand.tmp 96)) _ _ _ _ :: _) _ _); refine wpList_storeI hD5 rfl 21 (.tmp 97) (.tmp 96) 3 .i32 NV rfl (by kernel_rfl) (by kernel_rfl) (by simp) (by kernel_rfl) ?_; intro w6 hD6; obtain ⟨m0, m1, m2, m3, m4⟩ := hD6.ins))
  go_step3
  refine jump_to (by kernel_rfl) ?_
  conv in restOf _ _ => whnf
  go_wp2_with (first
    | (go_at_call 46; refine (Hch.out _ (hD6.tab hT)).mono ?_; rintro e w9 ⟨rfl, hb9⟩; have hD9 := hD6.below hb9; obtain ⟨k0, k1, k2, k3, k4⟩ := hD9.ins))
  go_step3
  go_wp2_with (first
    | ((with_reducible show wpList _ _ _ (Oper.mk none (Op.store _ (Operand.tmp 4) (Operand.tmp 143)) _ _ _ _ :: _) _ _); refine wpList_storeR hD9 rfl 25 (.tmp 4) (.tmp 143) (.int .i64 0) (.int .i64 0) (.int .i64 0) (.int .i32 0) (.int .i64 0) rfl (by kernel_rfl) (by kernel_rfl) (by simp [Value.oneCell']) (by kernel_rfl) ?_; intro w8 hB8 hz8; obtain ⟨z0, z1, z2, z3, z4⟩ := hz8))
  rw [jumpQ_ret]
  refine bodyPost_ret (v := .tuple #[.agg #[.int .i64 0, .int .i64 0, .int .i64 0, .int .i32 0, .int .i64 0], .int .i64 0, .int .i64 C]) (by simp [results, Tryd.results16, go_sem, z0, z1, z2, z3, z4]) rfl ⟨rfl, hB8⟩

set_option maxHeartbeats 1000000 in
theorem dec_12_1_short (b o n c F m : Nat) (at_ x : Int) (op B : Int) (N : ByteArray) (w : World) (hT : TabIs 0 w) (h0 : 0 ≤ at_) (h1 : at_ < n) (hn : (n : Int) ≤ 140737488351232) (hnc : n ≤ c) (hb : b < w.heap.size)
    (hF : (at_ + 1).toNat = F) (hm : n - F = m) (hcF : (c = F) = False) (hmI : (n : Int) - (F : Int) = m) (hcap : F ≤ n) (hlen : (m : Int) < 1)
    (hx : w.cell? ⟨b, o + at_.toNat, none⟩ = some (.int .u8 x)) 
    (Hfi : Hid (∀ w, TabIs 0 w → Calls Tryd.prog 44 #[.int .u8 x] w fun e w' => e = .returned (.tuple #[.int .i64 op, .agg #[.string N, .int .u8 B, .int .i64 12], .int .i64 1, .bool true]) ∧ Below w.heap.size w w')) :
    Calls Tryd.prog 16 #[.slice (some ⟨b, o, none⟩) n c, .int .i64 at_] w fun e w' => e = .returned (.tuple #[.agg #[.int .i64 0, .int .i64 0, .int .i64 0, .int .i32 0, .int .i64 0], .int .i64 0, .int .i64 10]) ∧ Below w.heap.size w w' := by
  have g0 : (at_ < 0) = False := by simp; omega
  have g1 : ((n : Int) < at_) = False := by simp; omega
  have g2 : (at_ = (n : Int)) = False := by simp; omega
  have g3 : (at_ == (n : Int)) = false := by simp; omega
  have hbb : ∀ k, (((w.alloc (.cells #[.int .i64 0, .int .i64 0, .int .i64 0, .int .i32 0, .int .i64 0] 25)).alloc (.cells #[.int .i64 0, .int .i64 0, .int .i64 0, .int .i32 0, .int .i64 0] 25)).alloc (.cells #[.string ⟨#[]⟩, .int .u8 0, .int .i64 0] 97)).cell? ⟨b, k, none⟩ = w.cell? ⟨b, k, none⟩ := by
    intro k
    rw [World.cell?_alloc_lt _ _ _ (by simp; omega), World.cell?_alloc_lt _ _ _ (by simp; omega), World.cell?_alloc_lt _ _ _ hb]
  go_enter Tryd.func16, Tryd.ntmps16
  go_wp2
  refine wp_scope_n (c' := decBody) 4 (by kernel_rfl) ?_
  go_wp2_with (first
    | (go_at_call 44; refine (Hfi.out _ (((hT.alloc _).alloc _).alloc _)).mono ?_; rintro e w2 ⟨rfl, hb2⟩; have hD2 := (DecW.init w).below hb2)
    | ((with_reducible show wpList _ _ _ (Oper.mk none (Op.store _ (Operand.tmp 37) (Operand.tmp 33)) _ _ _ _ :: _) _ _); refine wpList_storeI hD2 rfl 3 (.tmp 37) (.tmp 33) 0 .i64 op rfl (by kernel_rfl) (by kernel_rfl) (by simp) (by kernel_rfl) ?_; intro w3 hD3)
    | ((with_reducible show wpList _ _ _ (Oper.mk none (Op.store _ (Operand.tmp 8) (Operand.tmp 34)) _ _ _ _ :: _) _ _); refine wpList_storeX hD3 rfl 97 (.tmp 8) (.tmp 34) (.string N) (.int .u8 B) (.int .i64 12) rfl (by kernel_rfl) (by kernel_rfl) (by simp [Value.oneCell']) (by kernel_rfl) ?_; intro w4 hD4)
    | ((with_reducible show wpList _ _ _ (Oper.mk none (Op.store _ (Operand.tmp 38) (Operand.tmp 35)) _ _ _ _ :: _) _ _); refine wpList_storeI hD4 rfl 3 (.tmp 38) (.tmp 35) 4 .i64 1 rfl (by kernel_rfl) (by kernel_rfl) (by simp) (by kernel_rfl) ?_; intro w5 hD5; obtain ⟨i0, i1, i2, i3, i4⟩ := hD5.ins; obtain ⟨x1, x2⟩ := hD5.op))
  go_step3
  refine jump_to (by kernel_rfl) ?_
  conv in restOf _ _ => whnf
  go_wp2_with fail
  go_step3
  refine jump_to (by kernel_rfl) ?_
  conv in restOf _ _ => whnf
  go_wp2_with (first
    | ((with_reducible show wpList _ _ _ (Oper.mk none (Op.store _ (Operand.tmp 4) (Operand.tmp 143)) _ _ _ _ :: _) _ _); refine wpList_storeR hD5 rfl 25 (.tmp 4) (.tmp 143) (.int .i64 0) (.int .i64 0) (.int .i64 0) (.int .i32 0) (.int .i64 0) rfl (by kernel_rfl) (by kernel_rfl) (by simp [Value.oneCell']) (by kernel_rfl) ?_; intro w8 hB8 hz8; obtain ⟨z0, z1, z2, z3, z4⟩ := hz8))
  rw [jumpQ_ret]
  refine bodyPost_ret (v := .tuple #[.agg #[.int .i64 0, .int .i64 0, .int .i64 0, .int .i32 0, .int .i64 0], .int .i64 0, .int .i64 10]) (by simp [results, Tryd.results16, go_sem, z0, z1, z2, z3, z4]) rfl ⟨rfl, hB8⟩

set_option maxHeartbeats 1000000 in
theorem dec_12_1_shortc (b o n c F m : Nat) (at_ x : Int) (op B : Int) (N : ByteArray) (w : World) (hT : TabIs 0 w) (h0 : 0 ≤ at_) (h1 : at_ < n) (hn : (n : Int) ≤ 140737488351232) (hnc : n ≤ c) (hb : b < w.heap.size)
    (hF : (at_ + 1).toNat = F) (hm : n - F = m) (hcF : (c = F) = True) (hm0 : m = 0) (hmI : (n : Int) - (F : Int) = m) (hcap : F ≤ n) (hlen : (m : Int) < 1)
    (hx : w.cell? ⟨b, o + at_.toNat, none⟩ = some (.int .u8 x)) 
    (Hfi : Hid (∀ w, TabIs 0 w → Calls Tryd.prog 44 #[.int .u8 x] w fun e w' => e = .returned (.tuple #[.int .i64 op, .agg #[.string N, .int .u8 B, .int .i64 12], .int .i64 1, .bool true]) ∧ Below w.heap.size w w')) :
    Calls Tryd.prog 16 #[.slice (some ⟨b, o, none⟩) n c, .int .i64 at_] w fun e w' => e = .returned (.tuple #[.agg #[.int .i64 0, .int .i64 0, .int .i64 0, .int .i32 0, .int .i64 0], .int .i64 0, .int .i64 10]) ∧ Below w.heap.size w w' := by
  have g0 : (at_ < 0) = False := by simp; omega
  have g1 : ((n : Int) < at_) = False := by simp; omega
  have g2 : (at_ = (n : Int)) = False := by simp; omega
  have g3 : (at_ == (n : Int)) = false := by simp; omega
  have hbb : ∀ k, (((w.alloc (.cells #[.int .i64 0, .int .i64 0, .int .i64 0, .int .i32 0, .int .i64 0] 25)).alloc (.cells #[.int .i64 0, .int .i64 0, .int .i64 0, .int .i32 0, .int .i64 0] 25)).alloc (.cells #[.string ⟨#[]⟩, .int .u8 0, .int .i64 0] 97)).cell? ⟨b, k, none⟩ = w.cell? ⟨b, k, none⟩ := by
    intro k
    rw [World.cell?_alloc_lt _ _ _ (by simp; omega), World.cell?_alloc_lt _ _ _ (by simp; omega), World.cell?_alloc_lt _ _ _ hb]
  go_enter Tryd.func16, Tryd.ntmps16
  go_wp2
  refine wp_scope_n (c' := decBody) 4 (by kernel_rfl) ?_
  go_wp2_with (first
    | (go_at_call 44; refine (Hfi.out _ (((hT.alloc _).alloc _).alloc _)).mono ?_; rintro e w2 ⟨rfl, hb2⟩; have hD2 := (DecW.init w).below hb2)
    | ((with_reducible show wpList _ _ _ (Oper.mk none (Op.store _ (Operand.tmp 37) (Operand.tmp 33)) _ _ _ _ :: _) _ _); refine wpList_storeI hD2 rfl 3 (.tmp 37) (.tmp 33) 0 .i64 op rfl (by kernel_rfl) (by kernel_rfl) (by simp) (by kernel_rfl) ?_; intro w3 hD3)
    | ((with_reducible show wpList _ _ _ (Oper.mk none (Op.store _ (Operand.tmp 8) (Operand.tmp 34)) _ _ _ _ :: _) _ _); refine wpList_storeX hD3 rfl 97 (.tmp 8) (.tmp 34) (.string N) (.int .u8 B) (.int .i64 12) rfl (by kernel_rfl) (by kernel_rfl) (by simp [Value.oneCell']) (by kernel_rfl) ?_; intro w4 hD4)
    | ((with_reducible show wpList _ _ _ (Oper.mk none (Op.store _ (Operand.tmp 38) (Operand.tmp 35)) _ _ _ _ :: _) _ _); refine wpList_storeI hD4 rfl 3 (.tmp 38) (.tmp 35) 4 .i64 1 rfl (by kernel_rfl) (by kernel_rfl) (by simp) (by kernel_rfl) ?_; intro w5 hD5; obtain ⟨i0, i1, i2, i3, i4⟩ := hD5.ins; obtain ⟨x1, x2⟩ := hD5.op))
  go_step3
  refine jump_to (by kernel_rfl) ?_
  conv in restOf _ _ => whnf
  go_wp2_with fail
  go_step3
  refine jump_to (by kernel_rfl) ?_
  conv in restOf _ _ => whnf
  go_wp2_with (first
    | ((with_reducible show wpList _ _ _ (Oper.mk none (Op.store _ (Operand.tmp 4) (Operand.tmp 143)) _ _ _ _ :: _) _ _); refine wpList_storeR hD5 rfl 25 (.tmp 4) (.tmp 143) (.int .i64 0) (.int .i64 0) (.int .i64 0) (.int .i32 0) (.int .i64 0) rfl (by kernel_rfl) (by kernel_rfl) (by simp [Value.oneCell']) (by kernel_rfl) ?_; intro w8 hB8 hz8; obtain ⟨z0, z1, z2, z3, z4⟩ := hz8))
  rw [jumpQ_ret]
  refine bodyPost_ret (v := .tuple #[.agg #[.int .i64 0, .int .i64 0, .int .i64 0, .int .i32 0, .int .i64 0], .int .i64 0, .int .i64 10]) (by simp [results, Tryd.results16, go_sem, z0, z1, z2, z3, z4]) rfl ⟨rfl, hB8⟩

set_option maxHeartbeats 1000000 in
theorem dec_12_2_ok (b o n c F m : Nat) (at_ x : Int) (op B : Int) (N : ByteArray) (w : World) (hT : TabIs 0 w) (h0 : 0 ≤ at_) (h1 : at_ < n) (hn : (n : Int) ≤ 140737488351232) (hnc : n ≤ c) (hb : b < w.heap.size)
    (hF : (at_ + 1).toNat = F) (hm : n - F = m) (hcF : (c = F) = False) (hmI : (n : Int) - (F : Int) = m) (hcap : F ≤ n) (hlen : 2 ≤ (m : Int))
    (hx : w.cell? ⟨b, o + at_.toNat, none⟩ = some (.int .u8 x)) (NV : Int) (Hto : Hid (∀ w', (∀ k, w'.cell? ⟨b, k, none⟩ = w.cell? ⟨b, k, none⟩) → b < w'.heap.size → Calls Tryd.prog 45 #[.slice (some ⟨b, o + F, none⟩) m (c - F), .int .i64 0, .int .i64 2, .int .i64 12] w' fun e w'' => e = .returned (.int .i32 NV) ∧ w' = w'')) (Hch : Hid (∀ w, TabIs 0 w → Calls Tryd.prog 46 #[.agg #[.int .i64 op, .int .i64 0, .int .i64 0, .int .i32 NV, .int .i64 2]] w fun e w' => e = .returned (.int .i64 0) ∧ Below w.heap.size w w'))
    (Hfi : Hid (∀ w, TabIs 0 w → Calls Tryd.prog 44 #[.int .u8 x] w fun e w' => e = .returned (.tuple #[.int .i64 op, .agg #[.string N, .int .u8 B, .int .i64 12], .int .i64 2, .bool true]) ∧ Below w.heap.size w w')) :
    Calls Tryd.prog 16 #[.slice (some ⟨b, o, none⟩) n c, .int .i64 at_] w fun e w' => e = .returned (.tuple #[.agg #[.int .i64 op, .int .i64 0, .int .i64 0, .int .i32 NV, .int .i64 2], .int .i64 3, .int .i64 0]) ∧ Below w.heap.size w w' := by
  have g0 : (at_ < 0) = False := by simp; omega
  have g1 : ((n : Int) < at_) = False := by simp; omega
  have g2 : (at_ = (n : Int)) = False := by simp; omega
  have g3 : (at_ == (n : Int)) = false := by simp; omega
  have hbb : ∀ k, (((w.alloc (.cells #[.int .i64 0, .int .i64 0, .int .i64 0, .int .i32 0, .int .i64 0] 25)).alloc (.cells #[.int .i64 0, .int .i64 0, .int .i64 0, .int .i32 0, .int .i64 0] 25)).alloc (.cells #[.string ⟨#[]⟩, .int .u8 0, .int .i64 0] 97)).cell? ⟨b, k, none⟩ = w.cell? ⟨b, k, none⟩ := by
    intro k
    rw [World.cell?_alloc_lt _ _ _ (by simp; omega), World.cell?_alloc_lt _ _ _ (by simp; omega), World.cell?_alloc_lt _ _ _ hb]
  go_enter Tryd.func16, Tryd.ntmps16
  go_wp2
  refine wp_scope_n (c' := decBody) 4 (by kernel_rfl) ?_
  go_wp2_with (first
    | (go_at_call 44; refine (Hfi.out _ (((hT.alloc _).alloc _).alloc _)).mono ?_; rintro e w2 ⟨rfl, hb2⟩; have hD2 := (DecW.init w).below hb2)
    | ((with_reducible show wpList _ _ _ (Oper.mk none (Op.store _ (Operand.tmp 37) (Operand.tmp 33)) _ _ _ _ :: _) _ _); refine wpList_storeI hD2 rfl 3 (.tmp 37) (.tmp 33) 0 .i64 op rfl (by kernel_rfl) (by kernel_rfl) (by simp) (by kernel_rfl) ?_; intro w3 hD3)
    | ((with_reducible show wpList _ _ _ (Oper.mk none (Op.store _ (Operand.tmp 8) (Operand.tmp 34)) _ _ _ _ :: _) _ _); refine wpList_storeX hD3 rfl 97 (.tmp 8) (.tmp 34) (.string N) (.int .u8 B) (.int .i64 12) rfl (by kernel_rfl) (by kernel_rfl) (by simp [Value.oneCell']) (by kernel_rfl) ?_; intro w4 hD4)
    | ((with_reducible show wpList _ _ _ (Oper.mk none (Op.store _ (Operand.tmp 38) (Operand.tmp 35)) _ _ _ _ :: _) _ _); refine wpList_storeI hD4 rfl 3 (.tmp 38) (.tmp 35) 4 .i64 2 rfl (by kernel_rfl) (by kernel_rfl) (by simp) (by kernel_rfl) ?_; intro w5 hD5; obtain ⟨i0, i1, i2, i3, i4⟩ := hD5.ins; obtain ⟨x1, x2⟩ := hD5.op))
  go_step3
  refine jump_to (by kernel_rfl) ?_
  conv in restOf _ _ => whnf
  go_wp2_with (first
    | (go_at_call 45; refine (Hto.out _ (fun k => hD5.byte hb) (by have := hD5.1.size; omega)).mono ?_; rintro e wt ⟨rfl, rfl⟩)
    | ((with_reducible show wpList _ _ _ (Oper.mk none (Op.store _ (Operand.tmp 97) (Operand.tmp 96)) _ _ _ _ :: _) _ _); refine wpList_storeI hD5 rfl 21 (.tmp 97) (.tmp 96) 3 .i32 NV rfl (by kernel_rfl) (by kernel_rfl) (by simp) (by kernel_rfl) ?_; intro w6 hD6; obtain ⟨m0, m1, m2, m3, m4⟩ := hD6.ins))
  go_step3
  refine jump_to (by kernel_rfl) ?_
  conv in restOf _ _ => whnf
  go_wp2_with (first
    | (go_at_call 46; refine (Hch.out _ (hD6.tab hT)).mono ?_; rintro e w9 ⟨rfl, hb9⟩; have hD9 := hD6.below hb9; obtain ⟨k0, k1, k2, k3, k4⟩ := hD9.ins)
    | ((with_reducible show wpList _ _ _ (Oper.mk none (Op.store _ (Operand.tmp 4) (Operand.tmp 140)) _ _ _ _ :: _) _ _); refine wpList_storeR hD9 rfl 25 (.tmp 4) (.tmp 140) (.int .i64 op) (.int .i64 0) (.int .i64 0) (.int .i32 NV) (.int .i64 2) rfl (by kernel_rfl) (by kernel_rfl) (by simp [Value.oneCell']) (by kernel_rfl) ?_; intro w8 hB8 hz8; obtain ⟨z0, z1, z2, z3, z4⟩ := hz8))
  rw [jumpQ_ret]
  refine bodyPost_ret (v := .tuple #[.agg #[.int .i64 op, .int .i64 0, .int .i64 0, .int .i32 NV, .int .i64 2], .int .i64 3, .int .i64 0]) (by simp [results, Tryd.results16, go_sem, z0, z1, z2, z3, z4]) rfl ⟨rfl, hB8⟩

set_option maxHeartbeats 1000000 in
theorem dec_12_2_bad (b o n c F m : Nat) (at_ x : Int) (op B : Int) (N : ByteArray) (w : World) (hT : TabIs 0 w) (h0 : 0 ≤ at_) (h1 : at_ < n) (hn : (n : Int) ≤ 140737488351232) (hnc : n ≤ c) (hb : b < w.heap.size)
    (hF : (at_ + 1).toNat = F) (hm : n - F = m) (hcF : (c = F) = False) (hmI : (n : Int) - (F : Int) = m) (hcap : F ≤ n) (hlen : 2 ≤ (m : Int))
    (hx : w.cell? ⟨b, o + at_.toNat, none⟩ = some (.int .u8 x)) (NV : Int) (Hto : Hid (∀ w', (∀ k, w'.cell? ⟨b, k, none⟩ = w.cell? ⟨b, k, none⟩) → b < w'.heap.size → Calls Tryd.prog 45 #[.slice (some ⟨b, o + F, none⟩) m (c - F), .int .i64 0, .int .i64 2, .int .i64 12] w' fun e w'' => e = .returned (.int .i32 NV) ∧ w' = w'')) (C : Int) (hC : (C == 0) = false) (Hch : Hid (∀ w, TabIs 0 w → Calls Tryd.prog 46 #[.agg #[.int .i64 op, .int .i64 0, .int .i64 0, .int .i32 NV, .int .i64 2]] w fun e w' => e = .returned (.int .i64 C) ∧ Below w.heap.size w w'))
    (Hfi : Hid (∀ w, TabIs 0 w → Calls Tryd.prog 44 #[.int .u8 x] w fun e w' => e = .returned (.tuple #[.int .i64 op, .agg #[.string N, .int .u8 B, .int .i64 12], .int .i64 2, .bool true]) ∧ Below w.heap.size w w')) :
    Calls Tryd.prog 16 #[.slice (some ⟨b, o, none⟩) n c, .int .i64 at_] w fun e w' => e = .returned (.tuple #[.agg #[.int .i64 0, .int .i64 0, .int .i64 0, .int .i32 0, .int .i64 0], .int .i64 0, .int .i64 C]) ∧ Below w.heap.size w w' := by
  have g0 : (at_ < 0) = False := by simp; omega
  have g1 : ((n : Int) < at_) = False := by simp; omega
  have g2 : (at_ = (n : Int)) = False := by simp; omega
  have g3 : (at_ == (n : Int)) = false := by simp; omega
  have hbb : ∀ k, (((w.alloc (.cells #[.int .i64 0, .int .i64 0, .int .i64 0, .int .i32 0, .int .i64 0] 25)).alloc (.cells #[.int .i64 0, .int .i64 0, .int .i64 0, .int .i32 0, .int .i64 0] 25)).alloc (.cells #[.string ⟨#[]⟩, .int .u8 0, .int .i64 0] 97)).cell? ⟨b, k, none⟩ = w.cell? ⟨b, k, none⟩ := by
    intro k
    rw [World.cell?_alloc_lt _ _ _ (by simp; omega), World.cell?_alloc_lt _ _ _ (by simp; omega), World.cell?_alloc_lt _ _ _ hb]
  go_enter Tryd.func16, Tryd.ntmps16
  go_wp2
  refine wp_scope_n (c' := decBody) 4 (by kernel_rfl) ?_
  go_wp2_with (first
    | (go_at_call 44; refine (Hfi.out _ (((hT.alloc _).alloc _).alloc _)).mono ?_; rintro e w2 ⟨rfl, hb2⟩; have hD2 := (DecW.init w).below hb2)
    | ((with_reducible show wpList _ _ _ (Oper.mk none (Op.store _ (Operand.tmp 37) (Operand.tmp 33)) _ _ _ _ :: _) _ _); refine wpList_storeI hD2 rfl 3 (.tmp 37) (.tmp 33) 0 .i64 op rfl (by kernel_rfl) (by kernel_rfl) (by simp) (by kernel_rfl) ?_; intro w3 hD3)
    | ((with_reducible show wpList _ _ _ (Oper.mk none (Op.store _ (Operand.tmp 8) (Operand.tmp 34)) _ _ _ _ :: _) _ _); refine wpList_storeX hD3 rfl 97 (.tmp 8) (.tmp 34) (.string N) (.int .u8 B) (.int .i64 12) rfl (by kernel_rfl) (by kernel_rfl) (by simp [Value.oneCell']) (by kernel_rfl) ?_; intro w4 hD4)
    | ((with_reducible show wpList _ _ _ (Oper.mk none (Op.store _ (Operand.tmp 38) (Operand.tmp 35)) _ _ _ _ :: _) _ _); refine wpList_storeI hD4 rfl 3 (.tmp 38) (.tmp 35) 4 .i64 2 rfl (by kernel_rfl) (by kernel_rfl) (by simp) (by kernel_rfl) ?_; intro w5 hD5; obtain ⟨i0, i1, i2, i3, i4⟩ := hD5.ins; obtain ⟨x1, x2⟩ := hD5.op))
  go_step3
  refine jump_to (by kernel_rfl) ?_
  conv in restOf _ _ => whnf
  go_wp2_with (first
    | (go_at_call 45; refine (Hto.out _ (fun k => hD5.byte hb) (by have := hD5.1.size; omega)).mono ?_; rintro e wt ⟨rfl, rfl⟩)
    | ((with_reducible show wpList _ _ _ (Oper.mk none (Op.store _ (Operand.tmp 97) (Operand.tmp 96)) _ _ _ _ :: _) _ _); refine wpList_storeI hD5 rfl 21 (.tmp 97) (.tmp 96) 3 .i32 NV rfl (by kernel_rfl) (by kernel_rfl) (by simp) (by kernel_rfl) ?_; intro w6 hD6; obtain ⟨m0, m1, m2, m3, m4⟩ := hD6.ins))
  go_step3
  refine jump_to (by kernel_rfl) ?_
  conv in restOf _ _ => whnf
  go_wp2_with (first
    | (go_at_call 46; refine (Hch.out _ (hD6.tab hT)).mono ?_; rintro e w9 ⟨rfl, hb9⟩; have hD9 := hD6.below hb9; obtain ⟨k0, k1, k2, k3, k4⟩ := hD9.ins))
  go_step3
  go_wp2_with (first
    | ((with_reducible show wpList _ _ _ (Oper.mk none (Op.store _ (Operand.tmp 4) (Operand.tmp 143)) _ _ _ _ :: _) _ _); refine wpList_storeR hD9 rfl 25 (.tmp 4) (.tmp 143) (.int .i64 0) (.int .i64 0) (.int .i64 0) (.int .i32 0) (.int .i64 0) rfl (by kernel_rfl) (by kernel_rfl) (by simp [Value.oneCell']) (by kernel_rfl) ?_; intro w8 hB8 hz8; obtain ⟨z0, z1, z2, z3, z4⟩ := hz8))
  rw [jumpQ_ret]
  refine bodyPost_ret (v := .tuple #[.agg #[.int .i64 0, .int .i64 0, .int .i64 0, .int .i32 0, .int .i64 0], .int .i64 0, .int .i64 C]) (by simp [results, Tryd.results16, go_sem, z0, z1, z2, z3, z4]) rfl ⟨rfl, hB8⟩

set_option maxHeartbeats 1000000 in
theorem dec_12_2_short (b o n c F m : Nat) (at_ x : Int) (op B : Int) (N : ByteArray) (w : World) (hT : TabIs 0 w) (h0 : 0 ≤ at_) (h1 : at_ < n) (hn : (n : Int) ≤ 140737488351232) (hnc : n ≤ c) (hb : b < w.heap.size)
    (hF : (at_ + 1).toNat = F) (hm : n - F = m) (hcF : (c = F) = False) (hmI : (n : Int) - (F : Int) = m) (hcap : F ≤ n) (hlen : (m : Int) < 2)
    (hx : w.cell? ⟨b, o + at_.toNat, none⟩ = some (.int .u8 x)) 
    (Hfi : Hid (∀ w, TabIs 0 w → Calls Tryd.prog 44 #[.int .u8 x] w fun e w' => e = .returned (.tuple #[.int .i64 op, .agg #[.string N, .int .u8 B, .int .i64 12], .int .i64 2, .bool true]) ∧ Below w.heap.size w w')) :
    Calls Tryd.prog 16 #[.slice (some ⟨b, o, none⟩) n c, .int .i64 at_] w fun e w' => e = .returned (.tuple #[.agg #[.int .i64 0, .int .i64 0, .int .i64 0, .int .i32 0, .int .i64 0], .int .i64 0, .int .i64 10]) ∧ Below w.heap.size w w' := by
  have g0 : (at_ < 0) = False := by simp; omega
  have g1 : ((n : Int) < at_) = False := by simp; omega
  have g2 : (at_ = (n : Int)) = False := by simp; omega
  have g3 : (at_ == (n : Int)) = false := by simp; omega
  have hbb : ∀ k, (((w.alloc (.cells #[.int .i64 0, .int .i64 0, .int .i64 0, .int .i32 0, .int .i64 0] 25)).alloc (.cells #[.int .i64 0, .int .i64 0, .int .i64 0, .int .i32 0, .int .i64 0] 25)).alloc (.cells #[.string ⟨#[]⟩, .int .u8 0, .int .i64 0] 97)).cell? ⟨b, k, none⟩ = w.cell? ⟨b, k, none⟩ := by
    intro k
    rw [World.cell?_alloc_lt _ _ _ (by simp; omega), World.cell?_alloc_lt _ _ _ (by simp; omega), World.cell?_alloc_lt _ _ _ hb]
  go_enter Tryd.func16, Tryd.ntmps16
  go_wp2
  refine wp_scope_n (c' := decBody) 4 (by kernel_rfl) ?_
  go_wp2_with (first
    | (go_at_call 44; refine (Hfi.out _ (((hT.alloc _).alloc _).alloc _)).mono ?_; rintro e w2 ⟨rfl, hb2⟩; have hD2 := (DecW.init w).below hb2)
    | ((with_reducible show wpList _ _ _ (Oper.mk none (Op.store _ (Operand.tmp 37) (Operand.tmp 33)) _ _ _ _ :: _) _ _); refine wpList_storeI hD2 rfl 3 (.tmp 37) (.tmp 33) 0 .i64 op rfl (by kernel_rfl) (by kernel_rfl) (by simp) (by kernel_rfl) ?_; intro w3 hD3)
    | ((with_reducible show wpList _ _ _ (Oper.mk none (Op.store _ (Operand.tmp 8) (Operand.tmp 34)) _ _ _ _ :: _) _ _); refine wpList_storeX hD3 rfl 97 (.tmp 8) (.tmp 34) (.string N) (.int .u8 B) (.int .i64 12) rfl (by kernel_rfl) (by kernel_rfl) (by simp [Value.oneCell']) (by kernel_rfl) ?_; intro w4 hD4)
    | ((with_reducible show wpList _ _ _ (Oper.mk none (Op.store _ (Operand.tmp 38) (Operand.tmp 35)) _ _ _ _ :: _) _ _); refine wpList_storeI hD4 rfl 3 (.tmp 38) (.tmp 35) 4 .i64 2 rfl (by kernel_rfl) (by kernel_rfl) (by simp) (by kernel_rfl) ?_; intro w5 hD5; obtain ⟨i0, i1, i2, i3, i4⟩ := hD5.ins; obtain ⟨x1, x2⟩ := hD5.op))
  go_step3
  refine jump_to (by kernel_rfl) ?_
  conv in restOf _ _ => whnf
  go_wp2_with fail
  go_step3
  refine jump_to (by kernel_rfl) ?_
  conv in restOf _ _ => whnf
  go_wp2_with (first
    | ((with_reducible show wpList _ _ _ (Oper.mk none (Op.store _ (Operand.tmp 4) (Operand.tmp 143)) _ _ _ _ :: _) _ _); refine wpList_storeR hD5 rfl 25 (.tmp 4) (.tmp 143) (.int .i64 0) (.int .i64 0) (.int .i64 0) (.int .i32 0) (.int .i64 0) rfl (by kernel_rfl) (by kernel_rfl) (by simp [Value.oneCell']) (by kernel_rfl) ?_; intro w8 hB8 hz8; obtain ⟨z0, z1, z2, z3, z4⟩ := hz8))
  rw [jumpQ_ret]
  refine bodyPost_ret (v := .tuple #[.agg #[.int .i64 0, .int .i64 0, .int .i64 0, .int .i32 0, .int .i64 0], .int .i64 0, .int .i64 10]) (by simp [results, Tryd.results16, go_sem, z0, z1, z2, z3, z4]) rfl ⟨rfl, hB8⟩

set_option maxHeartbeats 1000000 in
theorem dec_12_2_shortc (b o n c F m : Nat) (at_ x : Int) (op B : Int) (N : ByteArray) (w : World) (hT : TabIs 0 w) (h0 : 0 ≤ at_) (h1 : at_ < n) (hn : (n : Int) ≤ 140737488351232) (hnc : n ≤ c) (hb : b < w.heap.size)
    (hF : (at_ + 1).toNat = F) (hm : n - F = m) (hcF : (c = F) = True) (hm0 : m = 0) (hmI : (n : Int) - (F : Int) = m) (hcap : F ≤ n) (hlen : (m : Int) < 2)
    (hx : w.cell? ⟨b, o + at_.toNat, none⟩ = some (.int .u8 x)) 
    (Hfi : Hid (∀ w, TabIs 0 w → Calls Tryd.prog 44 #[.int .u8 x] w fun e w' => e = .returned (.tuple #[.int .i64 op, .agg #[.string N, .int .u8 B, .int .i64 12], .int .i64 2, .bool true]) ∧ Below w.heap.size w w')) :
    Calls Tryd.prog 16 #[.slice (some ⟨b, o, none⟩) n c, .int .i64 at_] w fun e w' => e = .returned (.tuple #[.agg #[.int .i64 0, .int .i64 0, .int .i64 0, .int .i32 0, .int .i64 0], .int .i64 0, .int .i64 10]) ∧ Below w.heap.size w w' := by
  have g0 : (at_ < 0) = False := by simp; omega
  have g1 : ((n : Int) < at_) = False := by simp; omega
  have g2 : (at_ = (n : Int)) = False := by simp; omega
  have g3 : (at_ == (n : Int)) = false := by simp; omega
  have hbb : ∀ k, (((w.alloc (.cells #[.int .i64 0, .int .i64 0, .int .i64 0, .int .i32 0, .int .i64 0] 25)).alloc (.cells #[.int .i64 0, .int .i64 0, .int .i64 0, .int .i32 0, .int .i64 0] 25)).alloc (.cells #[.string ⟨#[]⟩, .int .u8 0, .int .i64 0] 97)).cell? ⟨b, k, none⟩ = w.cell? ⟨b, k, none⟩ := by
    intro k
    rw [World.cell?_alloc_lt _ _ _ (by simp; omega), World.cell?_alloc_lt _ _ _ (by simp; omega), World.cell?_alloc_lt _ _ _ hb]
  go_enter Tryd.func16, Tryd.ntmps16
  go_wp2
  refine wp_scope_n (c' := decBody) 4 (by kernel_rfl) ?_
  go_wp2_with (first
    | (go_at_call 44; refine (Hfi.out _ (((hT.alloc _).alloc _).alloc _)).mono ?_; rintro e w2 ⟨rfl, hb2⟩; have hD2 := (DecW.init w).below hb2)
    | ((with_reducible show wpList _ _ _ (Oper.mk none (Op.store _ (Operand.tmp 37) (Operand.tmp 33)) _ _ _ _ :: _) _ _); refine wpList_storeI hD2 rfl 3 (.tmp 37) (.tmp 33) 0 .i64 op rfl (by kernel_rfl) (by kernel_rfl) (by simp) (by kernel_rfl) ?_; intro w3 hD3)
    | ((with_reducible show wpList _ _ _ (Oper.mk none (Op.store _ (Operand.tmp 8) (Operand.tmp 34)) _ _ _ _ :: _) _ _); refine wpList_storeX hD3 rfl 97 (.tmp 8) (.tmp 34) (.string N) (.int .u8 B) (.int .i64 12) rfl (by kernel_rfl) (by kernel_rfl) (by simp [Value.oneCell']) (by kernel_rfl) ?_; intro w4 hD4)
    | ((with_reducible show wpList _ _ _ (Oper.mk none (Op.store _ (Operand.tmp 38) (Operand.tmp 35)) _ _ _ _ :: _) _ _); refine wpList_storeI hD4 rfl 3 (.tmp 38) (.tmp 35) 4 .i64 2 rfl (by kernel_rfl) (by kernel_rfl) (by simp) (by kernel_rfl) ?_; intro w5 hD5; obtain ⟨i0, i1, i2, i3, i4⟩ := hD5.ins; obtain ⟨x1, x2⟩ := hD5.op))
  go_step3
  refine jump_to (by kernel_rfl) ?_
  conv in restOf _ _ => whnf
  go_wp2_with fail
  go_step3
  refine jump_to (by kernel_rfl) ?_
  conv in restOf _ _ => whnf
  go_wp2_with (first
    | ((with_reducible show wpList _ _ _ (Oper.mk none (Op.store _ (Operand.tmp 4) (Operand.tmp 143)) _ _ _ _ :: _) _ _); refine wpList_storeR hD5 rfl 25 (.tmp 4) (.tmp 143) (.int .i64 0) (.int .i64 0) (.int .i64 0) (.int .i32 0) (.int .i64 0) rfl (by kernel_rfl) (by kernel_rfl) (by simp [Value.oneCell']) (by kernel_rfl) ?_; intro w8 hB8 hz8; obtain ⟨z0, z1, z2, z3, z4⟩ := hz8))
  rw [jumpQ_ret]
  refine bodyPost_ret (v := .tuple #[.agg #[.int .i64 0, .int .i64 0, .int .i64 0, .int .i32 0, .int .i64 0], .int .i64 0, .int .i64 10]) (by simp [results, Tryd.results16, go_sem, z0, z1, z2, z3, z4]) rfl ⟨rfl, hB8⟩

set_option maxHeartbeats 1000000 in
theorem dec_12_4_ok (b o n c F m : Nat) (at_ x : Int) (op B : Int) (N : ByteArray) (w : World) (hT : TabIs 0 w) (h0 : 0 ≤ at_) (h1 : at_ < n) (hn : (n : Int) ≤ 140737488351232) (hnc : n ≤ c) (hb : b < w.heap.size)
    (hF : (at_ + 1).toNat = F) (hm : n - F = m) (hcF : (c = F) = False) (hmI : (n : Int) - (F : Int) = m) (hcap : F ≤ n) (hlen : 4 ≤ (m : Int))
    (hx : w.cell? ⟨b, o + at_.toNat, none⟩ = some (.int .u8 x)) (NV : Int) (Hto : Hid (∀ w', (∀ k, w'.cell? ⟨b, k, none⟩ = w.cell? ⟨b, k, none⟩) → b < w'.heap.size → Calls Tryd.prog 45 #[.slice (some ⟨b, o + F, none⟩) m (c - F), .int .i64 0, .int .i64 4, .int .i64 12] w' fun e w'' => e = .returned (.int .i32 NV) ∧ w' = w'')) (Hch : Hid (∀ w, TabIs 0 w → Calls Tryd.prog 46 #[.agg #[.int .i64 op, .int .i64 0, .int .i64 0, .int .i32 NV, .int .i64 4]] w fun e w' => e = .returned (.int .i64 0) ∧ Below w.heap.size w w'))
    (Hfi : Hid (∀ w, TabIs 0 w → Calls Tryd.prog 44 #[.int .u8 x] w fun e w' => e = .returned (.tuple #[.int .i64 op, .agg #[.string N, .int .u8 B, .int .i64 12], .int .i64 4, .bool true]) ∧ Below w.heap.size w w')) :
    Calls Tryd.prog 16 #[.slice (some ⟨b, o, none⟩) n c, .int .i64 at_] w fun e w' => e = .returned (.tuple #[.agg #[.int .i64 op, .int .i64 0, .int .i64 0, .int .i32 NV, .int .i64 4], .int .i64 5, .int .i64 0]) ∧ Below w.heap.size w w' := by
  have g0 : (at_ < 0) = False := by simp; omega
  have g1 : ((n : Int) < at_) = False := by simp; omega
  have g2 : (at_ = (n : Int)) = False := by simp; omega
  have g3 : (at_ == (n : Int)) = false := by simp; omega
  have hbb : ∀ k, (((w.alloc (.cells #[.int .i64 0, .int .i64 0, .int .i64 0, .int .i32 0, .int .i64 0] 25)).alloc (.cells #[.int .i64 0, .int .i64 0, .int .i64 0, .int .i32 0, .int .i64 0] 25)).alloc (.cells #[.string ⟨#[]⟩, .int .u8 0, .int .i64 0] 97)).cell? ⟨b, k, none⟩ = w.cell? ⟨b, k, none⟩ := by
    intro k
    rw [World.cell?_alloc_lt _ _ _ (by simp; omega), World.cell?_alloc_lt _ _ _ (by simp; omega), World.cell?_alloc_lt _ _ _ hb]
  go_enter Tryd.func16, Tryd.ntmps16
  go_wp2
  refine wp_scope_n (c' := decBody) 4 (by kernel_rfl) ?_
  go_wp2_with (first
    | (go_at_call 44; refine (Hfi.out _ (((hT.alloc _).alloc _).alloc _)).mono ?_; rintro e w2 ⟨rfl, hb2⟩; have hD2 := (DecW.init w).below hb2)
    | ((with_reducible show wpList _ _ _ (Oper.mk none (Op.store _ (Operand.tmp 37) (Operand.tmp 33)) _ _ _ _ :: _) _ _); refine wpList_storeI hD2 rfl 3 (.tmp 37) (.tmp 33) 0 .i64 op rfl (by kernel_rfl) (by kernel_rfl) (by simp) (by kernel_rfl) ?_; intro w3 hD3)
    | ((with_reducible show wpList _ _ _ (Oper.mk none (Op.store _ (Operand.tmp 8) (Operand.tmp 34)) _ _ _ _ :: _) _ _); refine wpList_storeX hD3 rfl 97 (.tmp 8) (.tmp 34) (.string N) (.int .u8 B) (.int .i64 12) rfl (by kernel_rfl) (by kernel_rfl) (by simp [Value.oneCell']) (by kernel_rfl) ?_; intro w4 hD4)
    | ((with_reducible show wpList _ _ _ (Oper.mk none (Op.store _ (Operand.tmp 38) (Operand.tmp 35)) _ _ _ _ :: _) _ _); refine wpList_storeI hD4 rfl 3 (.tmp 38) (.tmp 35) 4 .i64 4 rfl (by kernel_rfl) (by kernel_rfl) (by simp) (by kernel_rfl) ?_; intro w5 hD5; obtain ⟨i0, i1, i2, i3, i4⟩ := hD5.ins; obtain ⟨x1, x2⟩ := hD5.op))
  go_step3
  refine jump_to (by kernel_rfl) ?_
  conv in restOf _ _ => whnf
  go_wp2_with (first
    | (go_at_call 45; refine (Hto.out _ (fun k => hD5.byte hb) (by have := hD5.1.size; omega)).mono ?_; rintro e wt ⟨rfl, rfl⟩)
    | ((with_reducible show wpList _ _ _ (Oper.mk none (Op.store _ (Operand.tmp 97) (Operand.tmp 96)) _ _ _ _ :: _) _ _); refine wpList_storeI hD5 rfl 21 (.tmp 97) (.tmp 96) 3 .i32 NV rfl (by kernel_rfl) (by kernel_rfl) (by simp) (by kernel_rfl) ?_; intro w6 hD6; obtain ⟨m0, m1, m2, m3, m4⟩ := hD6.ins))
  go_step3
  refine jump_to (by kernel_rfl) ?_
  conv in restOf _ _ => whnf
  go_wp2_with (first
    | (go_at_call 46; refine (Hch.out _ (hD6.tab hT)).mono ?_; rintro e w9 ⟨rfl, hb9⟩; have hD9 := hD6.below hb9; obtain ⟨k0, k1, k2, k3, k4⟩ := hD9.ins)
    | ((with_reducible show wpList _ _ _ (Oper.mk none (Op.store _ (Operand.tmp 4) (Operand.tmp 140)) _ _ _ _ :: _) _ _); refine wpList_storeR hD9 rfl 25 (.tmp 4) (.tmp 140) (.int .i64 op) (.int .i64 0) (.int .i64 0) (.int .i32 NV) (.int .i64 4) rfl (by kernel_rfl) (by kernel_rfl) (by simp [Value.oneCell']) (by kernel_rfl) ?_; intro w8 hB8 hz8; obtain ⟨z0, z1, z2, z3, z4⟩ := hz8))
  rw [jumpQ_ret]
  refine bodyPost_ret (v := .tuple #[.agg #[.int .i64 op, .int .i64 0, .int .i64 0, .int .i32 NV, .int .i64 4], .int .i64 5, .int .i64 0]) (by simp [results, Tryd.results16, go_sem, z0, z1, z2, z3, z4]) rfl ⟨rfl, hB8⟩

set_option maxHeartbeats 1000000 in
theorem dec_12_4_bad (b o n c F m : Nat) (at_ x : Int) (op B : Int) (N : ByteArray) (w : World) (hT : TabIs 0 w) (h0 : 0 ≤ at_) (h1 : at_ < n) (hn : (n : Int) ≤ 140737488351232) (hnc : n ≤ c) (hb : b < w.heap.size)
    (hF : (at_ + 1).toNat = F) (hm : n - F = m) (hcF : (c = F) = False) (hmI : (n : Int) - (F : Int) = m) (hcap : F ≤ n) (hlen : 4 ≤ (m : Int))
    (hx : w.cell? ⟨b, o + at_.toNat, none⟩ = some (.int .u8 x)) (NV : Int) (Hto : Hid (∀ w', (∀ k, w'.cell? ⟨b, k, none⟩ = w.cell? ⟨b, k, none⟩) → b < w'.heap.size → Calls Tryd.prog 45 #[.slice (some ⟨b, o + F, none⟩) m (c - F), .int .i64 0, .int .i64 4, .int .i64 12] w' fun e w'' => e = .returned (.int .i32 NV) ∧ w' = w'')) (C : Int) (hC : (C == 0) = false) (Hch : Hid (∀ w, TabIs 0 w → Calls Tryd.prog 46 #[.agg #[.int .i64 op, .int .i64 0, .int .i64 0, .int .i32 NV, .int .i64 4]] w fun e w' => e = .returned (.int .i64 C) ∧ Below w.heap.size w w'))
    (Hfi : Hid (∀ w, TabIs 0 w → Calls Tryd.prog 44 #[.int .u8 x] w fun e w' => e = .returned (.tuple #[.int .i64 op, .agg #[.string N, .int .u8 B, .int .i64 12], .int .i64 4, .bool true]) ∧ Below w.heap.size w w')) :
    Calls Tryd.prog 16 #[.slice (some ⟨b, o, none⟩) n c, .int .i64 at_] w fun e w' => e = .returned (.tuple #[.agg #[.int .i64 0, .int .i64 0, .int .i64 0, .int .i32 0, .int .i64 0], .int .i64 0, .int .i64 C]) ∧ Below w.heap.size w w' := by
  have g0 : (at_ < 0) = False := by simp; omega
  have g1 : ((n : Int) < at_) = False := by simp; omega
  have g2 : (at_ = (n : Int)) = False := by simp; omega
  have g3 : (at_ == (n : Int)) = false := by simp; omega
  have hbb : ∀ k, (((w.alloc (.cells #[.int .i64 0, .int .i64 0, .int .i64 0, .int .i32 0, .int .i64 0] 25)).alloc (.cells #[.int .i64 0, .int .i64 0, .int .i64 0, .int .i32 0, .int .i64 0] 25)).alloc (.cells #[.string ⟨#[]⟩, .int .u8 0, .int .i64 0] 97)).cell? ⟨b, k, none⟩ = w.cell? ⟨b, k, none⟩ := by
    intro k
    rw [World.cell?_alloc_lt _ _ _ (by simp; omega), World.cell?_alloc_lt _ _ _ (by simp; omega), World.cell?_alloc_lt _ _ _ hb]
  go_enter Tryd.func16, Tryd.ntmps16
  go_wp2
  refine wp_scope_n (c' := decBody) 4 (by kernel_rfl) ?_
  go_wp2_with (first
    | (go_at_call 44; refine (Hfi.out _ (((hT.alloc _).alloc _).alloc _)).mono ?_; rintro e w2 ⟨rfl, hb2⟩; have hD2 := (DecW.init w).below hb2)
    | ((with_reducible show wpList _ _ _ (Oper.mk none (Op.store _ (Operand.tmp 37) (Operand.tmp 33)) _ _ _ _ :: _) _ _); refine wpList_storeI hD2 rfl 3 (.tmp 37) (.tmp 33) 0 .i64 op rfl (by kernel_rfl) (by kernel_rfl) (by simp) (by kernel_rfl) ?_; intro w3 hD3)
    | ((with_reducible show wpList _ _ _ (Oper.mk none (Op.store _ (Operand.tmp 8) (Operand.tmp 34)) _ _ _ _ :: _) _ _); refine wpList_storeX hD3 rfl 97 (.tmp 8) (.tmp 34) (.string N) (.int .u8 B) (.int .i64 12) rfl (by kernel_rfl) (by kernel_rfl) (by simp [Value.oneCell']) (by kernel_rfl) ?_; intro w4 hD4)
    | ((with_reducible show wpList _ _ _ (Oper.mk none (Op.store _ (Operand.tmp 38) (Operand.tmp 35)) _ _ _ _ :: _) _ _); refine wpList_storeI hD4 rfl 3 (.tmp 38) (.tmp 35) 4 .i64 4 rfl (by kernel_rfl) (by kernel_rfl) (by simp) (by kernel_rfl) ?_; intro w5 hD5; obtain ⟨i0, i1, i2, i3, i4⟩ := hD5.ins; obtain ⟨x1, x2⟩ := hD5.op))
  go_step3
  refine jump_to (by kernel_rfl) ?_
  conv in restOf _ _ => whnf
  go_wp2_with (first
    | (go_at_call 45; refine (Hto.out _ (fun k => hD5.byte hb) (by have := hD5.1.size; omega)).mono ?_; rintro e wt ⟨rfl, rfl⟩)
    | ((with_reducible show wpList _ _ _ (Oper.mk none (Op.store _ (Operand.tmp 97) (Operand.tmp 96)) _ _ _ _ :: _) _ _); refine wpList_storeI hD5 rfl 21 (.tmp 97) (.tmp 96) 3 .i32 NV rfl (by kernel_rfl) (by kernel_rfl) (by simp) (by kernel_rfl) ?_; intro w6 hD6; obtain ⟨m0, m1, m2, m3, m4⟩ := hD6.ins))
  go_step3
  refine jump_to (by kernel_rfl) ?_
  conv in restOf _ _ => whnf
  go_wp2_with (first
    | (go_at_call 46; refine (Hch.out _ (hD6.tab hT)).mono ?_; rintro e w9 ⟨rfl, hb9⟩; have hD9 := hD6.below hb9; obtain ⟨k0, k1, k2, k3, k4⟩ := hD9.ins))
  go_step3
  go_wp2_with (first
    | ((with_reducible show wpList _ _ _ (Oper.mk none (Op.store _ (Operand.tmp 4) (Operand.tmp 143)) _ _ _ _ :: _) _ _); refine wpList_storeR hD9 rfl 25 (.tmp 4) (.tmp 143) (.int .i64 0) (.int .i64 0) (.int .i64 0) (.int .i32 0) (.int .i64 0) rfl (by kernel_rfl) (by kernel_rfl) (by simp [Value.oneCell']) (by kernel_rfl) ?_; intro w8 hB8 hz8; obtain ⟨z0, z1, z2, z3, z4⟩ := hz8))
  rw [jumpQ_ret]
  refine bodyPost_ret (v := .tuple #[.agg #[.int .i64 0, .int .i64 0, .int .i64 0, .int .i32 0, .int .i64 0], .int .i64 0, .int .i64 C]) (by simp [results, Tryd.results16, go_sem, z0, z1, z2, z3, z4]) rfl ⟨rfl, hB8⟩

set_option maxHeartbeats 1000000 in
theorem dec_12_4_short (b o n c F m : Nat) (at_ x : Int) (op B : Int) (N : ByteArray) (w : World) (hT : TabIs 0 w) (h0 : 0 ≤ at_) (h1 : at_ < n) (hn : (n : Int) ≤ 140737488351232) (hnc : n ≤ c) (hb : b < w.heap.size)
    (hF : (at_ + 1).toNat = F) (hm : n - F = m) (hcF : (c = F) = False) (hmI : (n : Int) - (F : Int) = m) (hcap : F ≤ n) (hlen : (m : Int) < 4)
    (hx : w.cell? ⟨b, o + at_.toNat, none⟩ = some (.int .u8 x)) 
    (Hfi : Hid (∀ w, TabIs 0 w → Calls Tryd.prog 44 #[.int .u8 x] w fun e w' => e = .returned (.tuple #[.int .i64 op, .agg #[.string N, .int .u8 B, .int .i64 12], .int .i64 4, .bool true]) ∧ Below w.heap.size w w')) :
    Calls Tryd.prog 16 #[.slice (some ⟨b, o, none⟩) n c, .int .i64 at_] w fun e w' => e = .returned (.tuple #[.agg #[.int .i64 0, .int .i64 0, .int .i64 0, .int .i32 0, .int .i64 0], .int .i64 0, .int .i64 10]) ∧ Below w.heap.size w w' := by
  have g0 : (at_ < 0) = False := by simp; omega
  have g1 : ((n : Int) < at_) = False := by simp; omega
  have g2 : (at_ = (n : Int)) = False := by simp; omega
  have g3 : (at_ == (n : Int)) = false := by simp; omega
  have hbb : ∀ k, (((w.alloc (.cells #[.int .i64 0, .int .i64 0, .int .i64 0, .int .i32 0, .int .i64 0] 25)).alloc (.cells #[.int .i64 0, .int .i64 0, .int .i64 0, .int .i32 0, .int .i64 0] 25)).alloc (.cells #[.string ⟨#[]⟩, .int .u8 0, .int .i64 0] 97)).cell? ⟨b, k, none⟩ = w.cell? ⟨b, k, none⟩ := by
    intro k
    rw [World.cell?_alloc_lt _ _ _ (by simp; omega), World.cell?_alloc_lt _ _ _ (by simp; omega), World.cell?_alloc_lt _ _ _ hb]
  go_enter Tryd.func16, Tryd.ntmps16
  go_wp2
  refine wp_scope_n (c' := decBody) 4 (by kernel_rfl) ?_
  go_wp2_with (first
    | (go_at_call 44; refine (Hfi.out _ (((hT.alloc _).alloc _).alloc _)).mono ?_; rintro e w2 ⟨rfl, hb2⟩; have hD2 := (DecW.init w).below hb2)
    | ((with_reducible show wpList _ _ _ (Oper.mk none (Op.store _ (Operand.tmp 37) (Operand.tmp 33)) _ _ _ _ :: _) _ _); refine wpList_storeI hD2 rfl 3 (.tmp 37) (.tmp 33) 0 .i64 op rfl (by kernel_rfl) (by kernel_rfl) (by simp) (by kernel_rfl) ?_; intro w3 hD3)
    | ((with_reducible show wpList _ _ _ (Oper.mk none (Op.store _ (Operand.tmp 8) (Operand.tmp 34)) _ _ _ _ :: _) _ _); refine wpList_storeX hD3 rfl 97 (.tmp 8) (.tmp 34) (.string N) (.int .u8 B) (.int .i64 12) rfl (by kernel_rfl) (by kernel_rfl) (by simp [Value.oneCell']) (by kernel_rfl) ?_; intro w4 hD4)
    | ((with_reducible show wpList _ _ _ (Oper.mk none (Op.store _ (Operand.tmp 38) (Operand.tmp 35)) _ _ _ _ :: _) _ _); refine wpList_storeI hD4 rfl 3 (.tmp 38) (.tmp 35) 4 .i64 4 rfl (by kernel_rfl) (by kernel_rfl) (by simp) (by kernel_rfl) ?_; intro w5 hD5; obtain ⟨i0, i1, i2, i3, i4⟩ := hD5.ins; obtain ⟨x1, x2⟩ := hD5.op))
  go_step3
  refine jump_to (by kernel_rfl) ?_
  conv in restOf _ _ => whnf
  go_wp2_with fail
  go_step3
  refine jump_to (by kernel_rfl) ?_
  conv in restOf _ _ => whnf
  go_wp2_with (first
    | ((with_reducible show wpList _ _ _ (Oper.mk none (Op.store _ (Operand.tmp 4) (Operand.tmp 143)) _ _ _ _ :: _) _ _); refine wpList_storeR hD5 rfl 25 (.tmp 4) (.tmp 143) (.int .i64 0) (.int .i64 0) (.int .i64 0) (.int .i32 0) (.int .i64 0) rfl (by kernel_rfl) (by kernel_rfl) (by simp [Value.oneCell']) (by kernel_rfl) ?_; intro w8 hB8 hz8; obtain ⟨z0, z1, z2, z3, z4⟩ := hz8))
  rw [jumpQ_ret]
  refine bodyPost_ret (v := .tuple #[.agg #[.int .i64 0, .int .i64 0, .int .i64 0, .int .i32 0, .int .i64 0], .int .i64 0, .int .i64 10]) (by simp [results, Tryd.results16, go_sem, z0, z1, z2, z3, z4]) rfl ⟨rfl, hB8⟩

set_option maxHeartbeats 1000000 in
theorem dec_12_4_shortc (b o n c F m : Nat) (at_ x : Int) (op B : Int) (N : ByteArray) (w : World) (hT : TabIs 0 w) (h0 : 0 ≤ at_) (h1 : at_ < n) (hn : (n : Int) ≤ 140737488351232) (hnc : n ≤ c) (hb : b < w.heap.size)
    (hF : (at_ + 1).toNat = F) (hm : n - F = m) (hcF : (c = F) = True) (hm0 : m = 0) (hmI : (n : Int) - (F : Int) = m) (hcap : F ≤ n) (hlen : (m : Int) < 4)
    (hx : w.cell? ⟨b, o + at_.toNat, none⟩ = some (.int .u8 x)) 
    (Hfi : Hid (∀ w, TabIs 0 w → Calls Tryd.prog 44 #[.int .u8 x] w fun e w' => e = .returned (.tuple #[.int .i64 op, .agg #[.string N, .int .u8 B, .int .i64 12], .int .i64 4, .bool true]) ∧ Below w.heap.size w w')) :
    Calls Tryd.prog 16 #[.slice (some ⟨b, o, none⟩) n c, .int .i64 at_] w fun e w' => e = .returned (.tuple #[.agg #[.int .i64 0, .int .i64 0, .int .i64 0, .int .i32 0, .int .i64 0], .int .i64 0, .int .i64 10]) ∧ Below w.heap.size w w' := by
  have g0 : (at_ < 0) = False := by simp; omega
  have g1 : ((n : Int) < at_) = False := by simp; omega
  have g2 : (at_ = (n : Int)) = False := by simp; omega
  have g3 : (at_ == (n : Int)) = false := by simp; omega
  have hbb : ∀ k, (((w.alloc (.cells #[.int .i64 0, .int .i64 0, .int .i64 0, .int .i32 0, .int .i64 0] 25)).alloc (.cells #[.int .i64 0, .int .i64 0, .int .i64 0, .int .i32 0, .int .i64 0] 25)).alloc (.cells #[.string ⟨#[]⟩, .int .u8 0, .int .i64 0] 97)).cell? ⟨b, k, none⟩ = w.cell? ⟨b, k, none⟩ := by
    intro k
    rw [World.cell?_alloc_lt _ _ _ (by simp; omega), World.cell?_alloc_lt _ _ _ (by simp; omega), World.cell?_alloc_lt _ _ _ hb]
  go_enter Tryd.func16, Tryd.ntmps16
  go_wp2
  refine wp_scope_n (c' := decBody) 4 (by kernel_rfl) ?_
  go_wp2_with (first
    | (go_at_call 44; refine (Hfi.out _ (((hT.alloc _).alloc _).alloc _)).mono ?_; rintro e w2 ⟨rfl, hb2⟩; have hD2 := (DecW.init w).below hb2)
    | ((with_reducible show wpList _ _ _ (Oper.mk none (Op.store _ (Operand.tmp 37) (Operand.tmp 33)) _ _ _ _ :: _) _ _); refine wpList_storeI hD2 rfl 3 (.tmp 37) (.tmp 33) 0 .i64 op rfl (by kernel_rfl) (by kernel_rfl) (by simp) (by kernel_rfl) ?_; intro w3 hD3)
    | ((with_reducible show wpList _ _ _ (Oper.mk none (Op.store _ (Operand.tmp 8) (Operand.tmp 34)) _ _ _ _ :: _) _ _); refine wpList_storeX hD3 rfl 97 (.tmp 8) (.tmp 34) (.string N) (.int .u8 B) (.int .i64 12) rfl (by kernel_rfl) (by kernel_rfl) (by simp [Value.oneCell']) (by kernel_rfl) ?_; intro w4 hD4)
    | ((with_reducible show wpList _ _ _ (Oper.mk none (Op.store _ (Operand.tmp 38) (Operand.tmp 35)) _ _ _ _ :: _) _ _); refine wpList_storeI hD4 rfl 3 (.tmp 38) (.tmp 35) 4 .i64 4 rfl (by kernel_rfl) (by kernel_rfl) (by simp) (by kernel_rfl) ?_; intro w5 hD5; obtain ⟨i0, i1, i2, i3, i4⟩ := hD5.ins; obtain ⟨x1, x2⟩ := hD5.op))
  go_step3
  refine jump_to (by kernel_rfl) ?_
  conv in restOf _ _ => whnf
  go_wp2_with fail
  go_step3
  refine jump_to (by kernel_rfl) ?_
  conv in restOf _ _ => whnf
  go_wp2_with (first
    | ((with_reducible show wpList _ _ _ (Oper.mk none (Op.store _ (Operand.tmp 4) (Operand.tmp 143)) _ _ _ _ :: _) _ _); refine wpList_storeR hD5 rfl 25 (.tmp 4) (.tmp 143) (.int .i64 0) (.int .i64 0) (.int .i64 0) (.int .i32 0) (.int .i64 0) rfl (by kernel_rfl) (by kernel_rfl) (by simp [Value.oneCell']) (by kernel_rfl) ?_; intro w8 hB8 hz8; obtain ⟨z0, z1, z2, z3, z4⟩ := hz8))
  rw [jumpQ_ret]
  refine bodyPost_ret (v := .tuple #[.agg #[.int .i64 0, .int .i64 0, .int .i64 0, .int .i32 0, .int .i64 0], .int .i64 0, .int .i64 10]) (by simp [results, Tryd.results16, go_sem, z0, z1, z2, z3, z4]) rfl ⟨rfl, hB8⟩
end Go.Proofs.YthcjnkakfpmpbaaDoor
