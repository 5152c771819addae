/- The walk of decode's Decode, by shapes: D6. Conditions: none. -/
import Derived.Test.YthcjnkakfpmpbaaDoorD4
namespace Go.Proofs.YthcjnkakfpmpbaaDoor
open Go.RowKit
set_option linter.unusedVariables false
set_option linter.unusedSimpArgs false

set_option maxHeartbeats 1000000 in
theorem dec_4_0_ok (b o n c F m : Nat) (at_ x : Int) (op B : Int) (N : ByteArray) (w : World) (hT : TabIs 0 w) (h0 : 0 ≤ at_) (h1 : at_ < n) (hn : (n : Int) ≤ 140737488351232) (hnc : n ≤ c) (hb : b < w.heap.size)
    (hF : (at_ + 1).toNat = F) (hm : n - F = m) (hcF : (c = F) = False) (hmI : (n : Int) - (F : Int) = m) (hcap : F ≤ n) (hlen : 1 ≤ (m : Int))
    (hx : w.cell? ⟨b, o + at_.toNat, none⟩ = some (.int .u8 x)) (r1 : Int) (hr1 : 0 ≤ r1 ∧ r1 < 256) (hx1 : w.cell? ⟨b, o + F, none⟩ = some (.int .u8 r1)) (Hch : Hid (∀ w, TabIs 0 w → Calls Tryd.prog 46 #[.agg #[.int .i64 op, .int .i64 (r1 / 16), .int .i64 (r1 % 16), .int .i32 0, .int .i64 0]] w fun e w' => e = .returned (.int .i64 0) ∧ Below w.heap.size w w'))
    (Hfi : Hid (∀ w, TabIs 0 w → Calls Tryd.prog 44 #[.int .u8 x] w fun e w' => e = .returned (.tuple #[.int .i64 op, .agg #[.string N, .int .u8 B, .int .i64 4], .int .i64 0, .bool true]) ∧ Below w.heap.size w w')) :
    Calls Tryd.prog 16 #[.slice (some ⟨b, o, none⟩) n c, .int .i64 at_] w fun e w' => e = .returned (.tuple #[.agg #[.int .i64 op, .int .i64 (r1 / 16), .int .i64 (r1 % 16), .int .i32 0, .int .i64 0], .int .i64 2, .int .i64 0]) ∧ Below w.heap.size w w' := by
  have g0 : (at_ < 0) = False := by simp; omega
  have g1 : ((n : Int) < at_) = False := by simp; omega
  have g2 : (at_ = (n : Int)) = False := by simp; omega
  have g3 : (at_ == (n : Int)) = false := by simp; omega
  have hbb : ∀ k, (((w.alloc (.cells #[.int .i64 0, .int .i64 0, .int .i64 0, .int .i32 0, .int .i64 0] 25)).alloc (.cells #[.int .i64 0, .int .i64 0, .int .i64 0, .int .i32 0, .int .i64 0] 25)).alloc (.cells #[.string ⟨#[]⟩, .int .u8 0, .int .i64 0] 97)).cell? ⟨b, k, none⟩ = w.cell? ⟨b, k, none⟩ := by
    intro k
    rw [World.cell?_alloc_lt _ _ _ (by simp; omega), World.cell?_alloc_lt _ _ _ (by simp; omega), World.cell?_alloc_lt _ _ _ hb]
  obtain ⟨hr10, hr11⟩ := hr1
  go_enter Tryd.func16, Tryd.ntmps16
  go_wp2
  refine wp_scope_n (c' := decBody) 4 (by kernel_rfl) ?_
  go_wp2_with (first
    | (go_at_call 44; refine (Hfi.out _ (((hT.alloc _).alloc _).alloc _)).mono ?_; rintro e w2 ⟨rfl, hb2⟩; have hD2 := (DecW.init w).below hb2)
    | ((with_reducible show wpList _ _ _ (Oper.mk none (Op.store _ (Operand.tmp 37) (Operand.tmp 33)) _ _ _ _ :: _) _ _); refine wpList_storeI hD2 rfl 3 (.tmp 37) (.tmp 33) 0 .i64 op rfl (by kernel_rfl) (by kernel_rfl) (by simp) (by kernel_rfl) ?_; intro w3 hD3)
    | ((with_reducible show wpList _ _ _ (Oper.mk none (Op.store _ (Operand.tmp 8) (Operand.tmp 34)) _ _ _ _ :: _) _ _); refine wpList_storeX hD3 rfl 97 (.tmp 8) (.tmp 34) (.string N) (.int .u8 B) (.int .i64 4) rfl (by kernel_rfl) (by kernel_rfl) (by simp [Value.oneCell']) (by kernel_rfl) ?_; intro w4 hD4)
    | ((with_reducible show wpList _ _ _ (Oper.mk none (Op.store _ (Operand.tmp 38) (Operand.tmp 35)) _ _ _ _ :: _) _ _); refine wpList_storeI hD4 rfl 3 (.tmp 38) (.tmp 35) 4 .i64 0 rfl (by kernel_rfl) (by kernel_rfl) (by simp) (by kernel_rfl) ?_; intro w5 hD5; obtain ⟨i0, i1, i2, i3, i4⟩ := hD5.ins; obtain ⟨x1, x2⟩ := hD5.op; have r1c := (hD5.byte (k := o + F) hb).trans hx1))
  go_step3
  refine jump_to (by kernel_rfl) ?_
  conv in restOf _ _ => whnf
  go_wp2_with fail
  have hmN : 0 < m := by omega
  have hsh : IntKind.i64.wrap (r1 / 16) = r1 / 16 := wrap64_small (by omega) (by omega)
  have han : bits BinOp.and IntKind.u8 r1 15 = r1 % 16 := and15 hr10 hr11
  have haw : IntKind.i64.wrap (r1 % 16) = r1 % 16 := wrap64_small (by omega) (by omega)
  refine held_start (ops' := dec38) (l0 := #[false, false, false, false, false, false, false, false, false, false, false, false, false, false]) (S := fun w' => w'.cell? ⟨b, o + F, none⟩ = some (.int .u8 r1)) (by kernel_rfl) (by kernel_rfl) (by kernel_rfl) (by kernel_rfl) r1c (fun R hR => ?_)
  have hDd := hD5.drew
  (refine held_take (v := ?_) (d := some 104) 0 (by kernel_rfl) (by kernel_rfl) rfl ?_ ?_
   rotate_left
   · intro w hSw
     conv in opOf _ _ => whnf
     (try obtain ⟨hs1, hs2⟩ := hSw)
     go_simp
     try (with_reducible rfl)
   try simp only [Act.put, List.setIfInBounds_toArray, List.set_cons_zero, List.set_cons_succ])
  (refine held_take (v := ?_) (d := some 105) 1 (by kernel_rfl) (by kernel_rfl) rfl ?_ ?_
   rotate_left
   · intro w hSw
     conv in opOf _ _ => whnf
     (try obtain ⟨hs1, hs2⟩ := hSw)
     go_simp
     try (with_reducible rfl)
   try simp only [Act.put, List.setIfInBounds_toArray, List.set_cons_zero, List.set_cons_succ])
  (refine held_take (v := ?_) (d := some 106) 2 (by kernel_rfl) (by kernel_rfl) rfl ?_ ?_
   rotate_left
   · intro w hSw
     conv in opOf _ _ => whnf
     (try obtain ⟨hs1, hs2⟩ := hSw)
     go_simp
     try (with_reducible rfl)
   try simp only [Act.put, List.setIfInBounds_toArray, List.set_cons_zero, List.set_cons_succ])
  (refine held_take (v := ?_) (d := some 107) 3 (by kernel_rfl) (by kernel_rfl) rfl ?_ ?_
   rotate_left
   · intro w hSw
     conv in opOf _ _ => whnf
     (try obtain ⟨hs1, hs2⟩ := hSw)
     go_simp
     try (with_reducible rfl)
   try simp only [Act.put, List.setIfInBounds_toArray, List.set_cons_zero, List.set_cons_succ])
  (refine held_take (v := ?_) (d := some 108) 4 (by kernel_rfl) (by kernel_rfl) rfl ?_ ?_
   rotate_left
   · intro w hSw
     conv in opOf _ _ => whnf
     (try obtain ⟨hs1, hs2⟩ := hSw)
     go_simp
     try simp only [hsh]
     try (with_reducible rfl)
   try simp only [Act.put, List.setIfInBounds_toArray, List.set_cons_zero, List.set_cons_succ])
  (refine held_take (v := ?_) (d := some 109) 5 (by kernel_rfl) (by kernel_rfl) rfl ?_ ?_
   rotate_left
   · intro w hSw
     conv in opOf _ _ => whnf
     (try obtain ⟨hs1, hs2⟩ := hSw)
     go_simp
     try (with_reducible rfl)
   try simp only [Act.put, List.setIfInBounds_toArray, List.set_cons_zero, List.set_cons_succ])
  (refine held_take (v := ?_) (d := some 110) 6 (by kernel_rfl) (by kernel_rfl) rfl ?_ ?_
   rotate_left
   · intro w hSw
     conv in opOf _ _ => whnf
     (try obtain ⟨hs1, hs2⟩ := hSw)
     go_simp
     try (with_reducible rfl)
   try simp only [Act.put, List.setIfInBounds_toArray, List.set_cons_zero, List.set_cons_succ])
  (refine held_take (v := ?_) (d := some 114) 10 (by kernel_rfl) (by kernel_rfl) rfl ?_ ?_
   rotate_left
   · intro w hSw
     conv in opOf _ _ => whnf
     (try obtain ⟨hs1, hs2⟩ := hSw)
     go_simp
     try (with_reducible rfl)
   try simp only [Act.put, List.setIfInBounds_toArray, List.set_cons_zero, List.set_cons_succ])
  refine held_two 7 11 (by kernel_rfl) (by kernel_rfl) (by kernel_rfl) ?_ ?_
  · (refine held_run (v := ?_) (w' := ?_) (d := some 111) 7 (by kernel_rfl) (by kernel_rfl) rfl ?_ ?_
     rotate_left 2
     · intro hSw
       (try obtain ⟨hs1, hs2⟩ := hSw)
       conv in opOf _ _ => whnf
       go_simp
       first | done | (with_reducible rfl) | (constructor <;> with_reducible rfl)
     intro hS
     refine ⟨hS, ?_⟩
     try simp only [Act.put, List.setIfInBounds_toArray, List.set_cons_zero, List.set_cons_succ])
    (refine held_take (v := ?_) (d := some 112) 8 (by kernel_rfl) (by kernel_rfl) rfl ?_ ?_
     rotate_left
     · intro w hSw
       conv in opOf _ _ => whnf
       (try obtain ⟨hs1, hs2⟩ := hSw)
       go_simp
       try simp only [han]
       try (with_reducible rfl)
     try simp only [Act.put, List.setIfInBounds_toArray, List.set_cons_zero, List.set_cons_succ])
    (refine held_take (v := ?_) (d := some 113) 9 (by kernel_rfl) (by kernel_rfl) rfl ?_ ?_
     rotate_left
     · intro w hSw
       conv in opOf _ _ => whnf
       (try obtain ⟨hs1, hs2⟩ := hSw)
       go_simp
       try simp only [haw]
       try (with_reducible rfl)
     try simp only [Act.put, List.setIfInBounds_toArray, List.set_cons_zero, List.set_cons_succ])
    (refine held_one 11 (by kernel_rfl) (by kernel_rfl) (held_storeI hDd (d := none) 11 (by kernel_rfl) (by kernel_rfl) rfl 3 (.tmp 114) (.tmp 108) 1 .i64 (r1 / 16) (by kernel_rfl) (by kernel_rfl) (by kernel_rfl) (by simp) (by kernel_rfl) (fun wa hDa => ⟨(hDa.byte (k := o + F) hb).trans hx1, ?_⟩))
     try simp only [Act.put, List.setIfInBounds_toArray, List.set_cons_zero, List.set_cons_succ])
    (refine held_take (v := ?_) (d := some 115) 12 (by kernel_rfl) (by kernel_rfl) rfl ?_ ?_
     rotate_left
     · intro w hSw
       conv in opOf _ _ => whnf
       (try obtain ⟨hs1, hs2⟩ := hSw)
       go_simp
       try (with_reducible rfl)
     try simp only [Act.put, List.setIfInBounds_toArray, List.set_cons_zero, List.set_cons_succ])
    (refine held_one 13 (by kernel_rfl) (by kernel_rfl) (held_storeI hDa (d := none) 13 (by kernel_rfl) (by kernel_rfl) rfl 3 (.tmp 115) (.tmp 113) 2 .i64 (r1 % 16) (by kernel_rfl) (by kernel_rfl) (by kernel_rfl) (by simp) (by kernel_rfl) (fun w7 hD7 => ⟨(hD7.byte (k := o + F) hb).trans hx1, ?_⟩))
     try simp only [Act.put, List.setIfInBounds_toArray, List.set_cons_zero, List.set_cons_succ])
    refine held_done (by kernel_rfl) (fun hS => hR.out _ _ ?_)
    obtain ⟨u0, u1, u2, u3, u4⟩ := hD7.ins
    go_wp2_with fail
    go_step3
    refine jump_to (by kernel_rfl) ?_
    conv in restOf _ _ => whnf
    go_wp2_with (first
      | (go_at_call 46; refine (Hch.out _ (hD7.tab hT)).mono ?_; rintro e w9 ⟨rfl, hb9⟩; have hD9 := hD7.below hb9; obtain ⟨k0, k1, k2, k3, k4⟩ := hD9.ins)
      | ((with_reducible show wpList _ _ _ (Oper.mk none (Op.store _ (Operand.tmp 4) (Operand.tmp 140)) _ _ _ _ :: _) _ _); refine wpList_storeR hD9 rfl 25 (.tmp 4) (.tmp 140) (.int .i64 op) (.int .i64 (r1 / 16)) (.int .i64 (r1 % 16)) (.int .i32 0) (.int .i64 0) rfl (by kernel_rfl) (by kernel_rfl) (by simp [Value.oneCell']) (by kernel_rfl) ?_; intro w8 hB8 hz8; obtain ⟨z0, z1, z2, z3, z4⟩ := hz8))
    rw [jumpQ_ret]
    refine bodyPost_ret (v := .tuple #[.agg #[.int .i64 op, .int .i64 (r1 / 16), .int .i64 (r1 % 16), .int .i32 0, .int .i64 0], .int .i64 2, .int .i64 0]) (by simp [results, Tryd.results16, go_sem, z0, z1, z2, z3, z4]) rfl ⟨rfl, hB8⟩
  · (refine held_storeI hDd (d := none) 11 (by kernel_rfl) (by kernel_rfl) rfl 3 (.tmp 114) (.tmp 108) 1 .i64 (r1 / 16) (by kernel_rfl) (by kernel_rfl) (by kernel_rfl) (by simp) (by kernel_rfl) (fun wa hDa => ⟨(hDa.byte (k := o + F) hb).trans hx1, ?_⟩)
     try simp only [Act.put, List.setIfInBounds_toArray, List.set_cons_zero, List.set_cons_succ])
    (refine held_take (v := ?_) (d := some 111) 7 (by kernel_rfl) (by kernel_rfl) rfl ?_ ?_
     rotate_left
     · intro w hSw
       conv in opOf _ _ => whnf
       (try obtain ⟨hs1, hs2⟩ := hSw)
       go_simp
       try (with_reducible rfl)
     try simp only [Act.put, List.setIfInBounds_toArray, List.set_cons_zero, List.set_cons_succ])
    (refine held_take (v := ?_) (d := some 112) 8 (by kernel_rfl) (by kernel_rfl) rfl ?_ ?_
     rotate_left
     · intro w hSw
       conv in opOf _ _ => whnf
       (try obtain ⟨hs1, hs2⟩ := hSw)
       go_simp
       try simp only [han]
       try (with_reducible rfl)
     try simp only [Act.put, List.setIfInBounds_toArray, List.set_cons_zero, List.set_cons_succ])
    (refine held_take (v := ?_) (d := some 113) 9 (by kernel_rfl) (by kernel_rfl) rfl ?_ ?_
     rotate_left
     · intro w hSw
       conv in opOf _ _ => whnf
       (try obtain ⟨hs1, hs2⟩ := hSw)
       go_simp
       try simp only [haw]
       try (with_reducible rfl)
     try simp only [Act.put, List.setIfInBounds_toArray, List.set_cons_zero, List.set_cons_succ])
    (refine held_take (v := ?_) (d := some 115) 12 (by kernel_rfl) (by kernel_rfl) rfl ?_ ?_
     rotate_left
     · intro w hSw
       conv in opOf _ _ => whnf
       (try obtain ⟨hs1, hs2⟩ := hSw)
       go_simp
       try (with_reducible rfl)
     try simp only [Act.put, List.setIfInBounds_toArray, List.set_cons_zero, List.set_cons_succ])
    (refine held_one 13 (by kernel_rfl) (by kernel_rfl) (held_storeI hDa (d := none) 13 (by kernel_rfl) (by kernel_rfl) rfl 3 (.tmp 115) (.tmp 113) 2 .i64 (r1 % 16) (by kernel_rfl) (by kernel_rfl) (by kernel_rfl) (by simp) (by kernel_rfl) (fun w7 hD7 => ⟨(hD7.byte (k := o + F) hb).trans hx1, ?_⟩))
     try simp only [Act.put, List.setIfInBounds_toArray, List.set_cons_zero, List.set_cons_succ])
    refine held_done (by kernel_rfl) (fun hS => hR.out _ _ ?_)
    obtain ⟨u0, u1, u2, u3, u4⟩ := hD7.ins
    go_wp2_with fail
    go_step3
    refine jump_to (by kernel_rfl) ?_
    conv in restOf _ _ => whnf
    go_wp2_with (first
      | (go_at_call 46; refine (Hch.out _ (hD7.tab hT)).mono ?_; rintro e w9 ⟨rfl, hb9⟩; have hD9 := hD7.below hb9; obtain ⟨k0, k1, k2, k3, k4⟩ := hD9.ins)
      | ((with_reducible show wpList _ _ _ (Oper.mk none (Op.store _ (Operand.tmp 4) (Operand.tmp 140)) _ _ _ _ :: _) _ _); refine wpList_storeR hD9 rfl 25 (.tmp 4) (.tmp 140) (.int .i64 op) (.int .i64 (r1 / 16)) (.int .i64 (r1 % 16)) (.int .i32 0) (.int .i64 0) rfl (by kernel_rfl) (by kernel_rfl) (by simp [Value.oneCell']) (by kernel_rfl) ?_; intro w8 hB8 hz8; obtain ⟨z0, z1, z2, z3, z4⟩ := hz8))
    rw [jumpQ_ret]
    refine bodyPost_ret (v := .tuple #[.agg #[.int .i64 op, .int .i64 (r1 / 16), .int .i64 (r1 % 16), .int .i32 0, .int .i64 0], .int .i64 2, .int .i64 0]) (by simp [results, Tryd.results16, go_sem, z0, z1, z2, z3, z4]) rfl ⟨rfl, hB8⟩

set_option maxHeartbeats 1000000 in
theorem dec_4_0_bad (b o n c F m : Nat) (at_ x : Int) (op B : Int) (N : ByteArray) (w : World) (hT : TabIs 0 w) (h0 : 0 ≤ at_) (h1 : at_ < n) (hn : (n : Int) ≤ 140737488351232) (hnc : n ≤ c) (hb : b < w.heap.size)
    (hF : (at_ + 1).toNat = F) (hm : n - F = m) (hcF : (c = F) = False) (hmI : (n : Int) - (F : Int) = m) (hcap : F ≤ n) (hlen : 1 ≤ (m : Int))
    (hx : w.cell? ⟨b, o + at_.toNat, none⟩ = some (.int .u8 x)) (r1 : Int) (hr1 : 0 ≤ r1 ∧ r1 < 256) (hx1 : w.cell? ⟨b, o + F, none⟩ = some (.int .u8 r1)) (C : Int) (hC : (C == 0) = false) (Hch : Hid (∀ w, TabIs 0 w → Calls Tryd.prog 46 #[.agg #[.int .i64 op, .int .i64 (r1 / 16), .int .i64 (r1 % 16), .int .i32 0, .int .i64 0]] w fun e w' => e = .returned (.int .i64 C) ∧ Below w.heap.size w w'))
    (Hfi : Hid (∀ w, TabIs 0 w → Calls Tryd.prog 44 #[.int .u8 x] w fun e w' => e = .returned (.tuple #[.int .i64 op, .agg #[.string N, .int .u8 B, .int .i64 4], .int .i64 0, .bool true]) ∧ Below w.heap.size w w')) :
    Calls Tryd.prog 16 #[.slice (some ⟨b, o, none⟩) n c, .int .i64 at_] w fun e w' => e = .returned (.tuple #[.agg #[.int .i64 0, .int .i64 0, .int .i64 0, .int .i32 0, .int .i64 0], .int .i64 0, .int .i64 C]) ∧ Below w.heap.size w w' := by
  have g0 : (at_ < 0) = False := by simp; omega
  have g1 : ((n : Int) < at_) = False := by simp; omega
  have g2 : (at_ = (n : Int)) = False := by simp; omega
  have g3 : (at_ == (n : Int)) = false := by simp; omega
  have hbb : ∀ k, (((w.alloc (.cells #[.int .i64 0, .int .i64 0, .int .i64 0, .int .i32 0, .int .i64 0] 25)).alloc (.cells #[.int .i64 0, .int .i64 0, .int .i64 0, .int .i32 0, .int .i64 0] 25)).alloc (.cells #[.string ⟨#[]⟩, .int .u8 0, .int .i64 0] 97)).cell? ⟨b, k, none⟩ = w.cell? ⟨b, k, none⟩ := by
    intro k
    rw [World.cell?_alloc_lt _ _ _ (by simp; omega), World.cell?_alloc_lt _ _ _ (by simp; omega), World.cell?_alloc_lt _ _ _ hb]
  obtain ⟨hr10, hr11⟩ := hr1
  go_enter Tryd.func16, Tryd.ntmps16
  go_wp2
  refine wp_scope_n (c' := decBody) 4 (by kernel_rfl) ?_
  go_wp2_with (first
    | (go_at_call 44; refine (Hfi.out _ (((hT.alloc _).alloc _).alloc _)).mono ?_; rintro e w2 ⟨rfl, hb2⟩; have hD2 := (DecW.init w).below hb2)
    | ((with_reducible show wpList _ _ _ (Oper.mk none (Op.store _ (Operand.tmp 37) (Operand.tmp 33)) _ _ _ _ :: _) _ _); refine wpList_storeI hD2 rfl 3 (.tmp 37) (.tmp 33) 0 .i64 op rfl (by kernel_rfl) (by kernel_rfl) (by simp) (by kernel_rfl) ?_; intro w3 hD3)
    | ((with_reducible show wpList _ _ _ (Oper.mk none (Op.store _ (Operand.tmp 8) (Operand.tmp 34)) _ _ _ _ :: _) _ _); refine wpList_storeX hD3 rfl 97 (.tmp 8) (.tmp 34) (.string N) (.int .u8 B) (.int .i64 4) rfl (by kernel_rfl) (by kernel_rfl) (by simp [Value.oneCell']) (by kernel_rfl) ?_; intro w4 hD4)
    | ((with_reducible show wpList _ _ _ (Oper.mk none (Op.store _ (Operand.tmp 38) (Operand.tmp 35)) _ _ _ _ :: _) _ _); refine wpList_storeI hD4 rfl 3 (.tmp 38) (.tmp 35) 4 .i64 0 rfl (by kernel_rfl) (by kernel_rfl) (by simp) (by kernel_rfl) ?_; intro w5 hD5; obtain ⟨i0, i1, i2, i3, i4⟩ := hD5.ins; obtain ⟨x1, x2⟩ := hD5.op; have r1c := (hD5.byte (k := o + F) hb).trans hx1))
  go_step3
  refine jump_to (by kernel_rfl) ?_
  conv in restOf _ _ => whnf
  go_wp2_with fail
  have hmN : 0 < m := by omega
  have hsh : IntKind.i64.wrap (r1 / 16) = r1 / 16 := wrap64_small (by omega) (by omega)
  have han : bits BinOp.and IntKind.u8 r1 15 = r1 % 16 := and15 hr10 hr11
  have haw : IntKind.i64.wrap (r1 % 16) = r1 % 16 := wrap64_small (by omega) (by omega)
  refine held_start (ops' := dec38) (l0 := #[false, false, false, false, false, false, false, false, false, false, false, false, false, false]) (S := fun w' => w'.cell? ⟨b, o + F, none⟩ = some (.int .u8 r1)) (by kernel_rfl) (by kernel_rfl) (by kernel_rfl) (by kernel_rfl) r1c (fun R hR => ?_)
  have hDd := hD5.drew
  (refine held_take (v := ?_) (d := some 104) 0 (by kernel_rfl) (by kernel_rfl) rfl ?_ ?_
   rotate_left
   · intro w hSw
     conv in opOf _ _ => whnf
     (try obtain ⟨hs1, hs2⟩ := hSw)
     go_simp
     try (with_reducible rfl)
   try simp only [Act.put, List.setIfInBounds_toArray, List.set_cons_zero, List.set_cons_succ])
  (refine held_take (v := ?_) (d := some 105) 1 (by kernel_rfl) (by kernel_rfl) rfl ?_ ?_
   rotate_left
   · intro w hSw
     conv in opOf _ _ => whnf
     (try obtain ⟨hs1, hs2⟩ := hSw)
     go_simp
     try (with_reducible rfl)
   try simp only [Act.put, List.setIfInBounds_toArray, List.set_cons_zero, List.set_cons_succ])
  (refine held_take (v := ?_) (d := some 106) 2 (by kernel_rfl) (by kernel_rfl) rfl ?_ ?_
   rotate_left
   · intro w hSw
     conv in opOf _ _ => whnf
     (try obtain ⟨hs1, hs2⟩ := hSw)
     go_simp
     try (with_reducible rfl)
   try simp only [Act.put, List.setIfInBounds_toArray, List.set_cons_zero, List.set_cons_succ])
  (refine held_take (v := ?_) (d := some 107) 3 (by kernel_rfl) (by kernel_rfl) rfl ?_ ?_
   rotate_left
   · intro w hSw
     conv in opOf _ _ => whnf
     (try obtain ⟨hs1, hs2⟩ := hSw)
     go_simp
     try (with_reducible rfl)
   try simp only [Act.put, List.setIfInBounds_toArray, List.set_cons_zero, List.set_cons_succ])
  (refine held_take (v := ?_) (d := some 108) 4 (by kernel_rfl) (by kernel_rfl) rfl ?_ ?_
   rotate_left
   · intro w hSw
     conv in opOf _ _ => whnf
     (try obtain ⟨hs1, hs2⟩ := hSw)
     go_simp
     try simp only [hsh]
     try (with_reducible rfl)
   try simp only [Act.put, List.setIfInBounds_toArray, List.set_cons_zero, List.set_cons_succ])
  (refine held_take (v := ?_) (d := some 109) 5 (by kernel_rfl) (by kernel_rfl) rfl ?_ ?_
   rotate_left
   · intro w hSw
     conv in opOf _ _ => whnf
     (try obtain ⟨hs1, hs2⟩ := hSw)
     go_simp
     try (with_reducible rfl)
   try simp only [Act.put, List.setIfInBounds_toArray, List.set_cons_zero, List.set_cons_succ])
  (refine held_take (v := ?_) (d := some 110) 6 (by kernel_rfl) (by kernel_rfl) rfl ?_ ?_
   rotate_left
   · intro w hSw
     conv in opOf _ _ => whnf
     (try obtain ⟨hs1, hs2⟩ := hSw)
     go_simp
     try (with_reducible rfl)
   try simp only [Act.put, List.setIfInBounds_toArray, List.set_cons_zero, List.set_cons_succ])
  (refine held_take (v := ?_) (d := some 114) 10 (by kernel_rfl) (by kernel_rfl) rfl ?_ ?_
   rotate_left
   · intro w hSw
     conv in opOf _ _ => whnf
     (try obtain ⟨hs1, hs2⟩ := hSw)
     go_simp
     try (with_reducible rfl)
   try simp only [Act.put, List.setIfInBounds_toArray, List.set_cons_zero, List.set_cons_succ])
  refine held_two 7 11 (by kernel_rfl) (by kernel_rfl) (by kernel_rfl) ?_ ?_
  · (refine held_run (v := ?_) (w' := ?_) (d := some 111) 7 (by kernel_rfl) (by kernel_rfl) rfl ?_ ?_
     rotate_left 2
     · intro hSw
       (try obtain ⟨hs1, hs2⟩ := hSw)
       conv in opOf _ _ => whnf
       go_simp
       first | done | (with_reducible rfl) | (constructor <;> with_reducible rfl)
     intro hS
     refine ⟨hS, ?_⟩
     try simp only [Act.put, List.setIfInBounds_toArray, List.set_cons_zero, List.set_cons_succ])
    (refine held_take (v := ?_) (d := some 112) 8 (by kernel_rfl) (by kernel_rfl) rfl ?_ ?_
     rotate_left
     · intro w hSw
       conv in opOf _ _ => whnf
       (try obtain ⟨hs1, hs2⟩ := hSw)
       go_simp
       try simp only [han]
       try (with_reducible rfl)
     try simp only [Act.put, List.setIfInBounds_toArray, List.set_cons_zero, List.set_cons_succ])
    (refine held_take (v := ?_) (d := some 113) 9 (by kernel_rfl) (by kernel_rfl) rfl ?_ ?_
     rotate_left
     · intro w hSw
       conv in opOf _ _ => whnf
       (try obtain ⟨hs1, hs2⟩ := hSw)
       go_simp
       try simp only [haw]
       try (with_reducible rfl)
     try simp only [Act.put, List.setIfInBounds_toArray, List.set_cons_zero, List.set_cons_succ])
    (refine held_one 11 (by kernel_rfl) (by kernel_rfl) (held_storeI hDd (d := none) 11 (by kernel_rfl) (by kernel_rfl) rfl 3 (.tmp 114) (.tmp 108) 1 .i64 (r1 / 16) (by kernel_rfl) (by kernel_rfl) (by kernel_rfl) (by simp) (by kernel_rfl) (fun wa hDa => ⟨(hDa.byte (k := o + F) hb).trans hx1, ?_⟩))
     try simp only [Act.put, List.setIfInBounds_toArray, List.set_cons_zero, List.set_cons_succ])
    (refine held_take (v := ?_) (d := some 115) 12 (by kernel_rfl) (by kernel_rfl) rfl ?_ ?_
     rotate_left
     · intro w hSw
       conv in opOf _ _ => whnf
       (try obtain ⟨hs1, hs2⟩ := hSw)
       go_simp
       try (with_reducible rfl)
     try simp only [Act.put, List.setIfInBounds_toArray, List.set_cons_zero, List.set_cons_succ])
    (refine held_one 13 (by kernel_rfl) (by kernel_rfl) (held_storeI hDa (d := none) 13 (by kernel_rfl) (by kernel_rfl) rfl 3 (.tmp 115) (.tmp 113) 2 .i64 (r1 % 16) (by kernel_rfl) (by kernel_rfl) (by kernel_rfl) (by simp) (by kernel_rfl) (fun w7 hD7 => ⟨(hD7.byte (k := o + F) hb).trans hx1, ?_⟩))
     try simp only [Act.put, List.setIfInBounds_toArray, List.set_cons_zero, List.set_cons_succ])
    refine held_done (by kernel_rfl) (fun hS => hR.out _ _ ?_)
    obtain ⟨u0, u1, u2, u3, u4⟩ := hD7.ins
    go_wp2_with fail
    go_step3
    refine jump_to (by kernel_rfl) ?_
    conv in restOf _ _ => whnf
    go_wp2_with (first
      | (go_at_call 46; refine (Hch.out _ (hD7.tab hT)).mono ?_; rintro e w9 ⟨rfl, hb9⟩; have hD9 := hD7.below hb9; obtain ⟨k0, k1, k2, k3, k4⟩ := hD9.ins))
    go_step3
    go_wp2_with (first
      | ((with_reducible show wpList _ _ _ (Oper.mk none (Op.store _ (Operand.tmp 4) (Operand.tmp 143)) _ _ _ _ :: _) _ _); refine wpList_storeR hD9 rfl 25 (.tmp 4) (.tmp 143) (.int .i64 0) (.int .i64 0) (.int .i64 0) (.int .i32 0) (.int .i64 0) rfl (by kernel_rfl) (by kernel_rfl) (by simp [Value.oneCell']) (by kernel_rfl) ?_; intro w8 hB8 hz8; obtain ⟨z0, z1, z2, z3, z4⟩ := hz8))
    rw [jumpQ_ret]
    refine bodyPost_ret (v := .tuple #[.agg #[.int .i64 0, .int .i64 0, .int .i64 0, .int .i32 0, .int .i64 0], .int .i64 0, .int .i64 C]) (by simp [results, Tryd.results16, go_sem, z0, z1, z2, z3, z4]) rfl ⟨rfl, hB8⟩
  · (refine held_storeI hDd (d := none) 11 (by kernel_rfl) (by kernel_rfl) rfl 3 (.tmp 114) (.tmp 108) 1 .i64 (r1 / 16) (by kernel_rfl) (by kernel_rfl) (by kernel_rfl) (by simp) (by kernel_rfl) (fun wa hDa => ⟨(hDa.byte (k := o + F) hb).trans hx1, ?_⟩)
     try simp only [Act.put, List.setIfInBounds_toArray, List.set_cons_zero, List.set_cons_succ])
    (refine held_take (v := ?_) (d := some 111) 7 (by kernel_rfl) (by kernel_rfl) rfl ?_ ?_
     rotate_left
     · intro w hSw
       conv in opOf _ _ => whnf
       (try obtain ⟨hs1, hs2⟩ := hSw)
       go_simp
       try (with_reducible rfl)
     try simp only [Act.put, List.setIfInBounds_toArray, List.set_cons_zero, List.set_cons_succ])
    (refine held_take (v := ?_) (d := some 112) 8 (by kernel_rfl) (by kernel_rfl) rfl ?_ ?_
     rotate_left
     · intro w hSw
       conv in opOf _ _ => whnf
       (try obtain ⟨hs1, hs2⟩ := hSw)
       go_simp
       try simp only [han]
       try (with_reducible rfl)
     try simp only [Act.put, List.setIfInBounds_toArray, List.set_cons_zero, List.set_cons_succ])
    (refine held_take (v := ?_) (d := some 113) 9 (by kernel_rfl) (by kernel_rfl) rfl ?_ ?_
     rotate_left
     · intro w hSw
       conv in opOf _ _ => whnf
       (try obtain ⟨hs1, hs2⟩ := hSw)
       go_simp
       try simp only [haw]
       try (with_reducible rfl)
     try simp only [Act.put, List.setIfInBounds_toArray, List.set_cons_zero, List.set_cons_succ])
    (refine held_take (v := ?_) (d := some 115) 12 (by kernel_rfl) (by kernel_rfl) rfl ?_ ?_
     rotate_left
     · intro w hSw
       conv in opOf _ _ => whnf
       (try obtain ⟨hs1, hs2⟩ := hSw)
       go_simp
       try (with_reducible rfl)
     try simp only [Act.put, List.setIfInBounds_toArray, List.set_cons_zero, List.set_cons_succ])
    (refine held_one 13 (by kernel_rfl) (by kernel_rfl) (held_storeI hDa (d := none) 13 (by kernel_rfl) (by kernel_rfl) rfl 3 (.tmp 115) (.tmp 113) 2 .i64 (r1 % 16) (by kernel_rfl) (by kernel_rfl) (by kernel_rfl) (by simp) (by kernel_rfl) (fun w7 hD7 => ⟨(hD7.byte (k := o + F) hb).trans hx1, ?_⟩))
     try simp only [Act.put, List.setIfInBounds_toArray, List.set_cons_zero, List.set_cons_succ])
    refine held_done (by kernel_rfl) (fun hS => hR.out _ _ ?_)
    obtain ⟨u0, u1, u2, u3, u4⟩ := hD7.ins
    go_wp2_with fail
    go_step3
    refine jump_to (by kernel_rfl) ?_
    conv in restOf _ _ => whnf
    go_wp2_with (first
      | (go_at_call 46; refine (Hch.out _ (hD7.tab hT)).mono ?_; rintro e w9 ⟨rfl, hb9⟩; have hD9 := hD7.below hb9; obtain ⟨k0, k1, k2, k3, k4⟩ := hD9.ins))
    go_step3
    go_wp2_with (first
      | ((with_reducible show wpList _ _ _ (Oper.mk none (Op.store _ (Operand.tmp 4) (Operand.tmp 143)) _ _ _ _ :: _) _ _); refine wpList_storeR hD9 rfl 25 (.tmp 4) (.tmp 143) (.int .i64 0) (.int .i64 0) (.int .i64 0) (.int .i32 0) (.int .i64 0) rfl (by kernel_rfl) (by kernel_rfl) (by simp [Value.oneCell']) (by kernel_rfl) ?_; intro w8 hB8 hz8; obtain ⟨z0, z1, z2, z3, z4⟩ := hz8))
    rw [jumpQ_ret]
    refine bodyPost_ret (v := .tuple #[.agg #[.int .i64 0, .int .i64 0, .int .i64 0, .int .i32 0, .int .i64 0], .int .i64 0, .int .i64 C]) (by simp [results, Tryd.results16, go_sem, z0, z1, z2, z3, z4]) rfl ⟨rfl, hB8⟩

set_option maxHeartbeats 1000000 in
theorem dec_4_0_short (b o n c F m : Nat) (at_ x : Int) (op B : Int) (N : ByteArray) (w : World) (hT : TabIs 0 w) (h0 : 0 ≤ at_) (h1 : at_ < n) (hn : (n : Int) ≤ 140737488351232) (hnc : n ≤ c) (hb : b < w.heap.size)
    (hF : (at_ + 1).toNat = F) (hm : n - F = m) (hcF : (c = F) = False) (hmI : (n : Int) - (F : Int) = m) (hcap : F ≤ n) (hlen : (m : Int) < 1)
    (hx : w.cell? ⟨b, o + at_.toNat, none⟩ = some (.int .u8 x)) 
    (Hfi : Hid (∀ w, TabIs 0 w → Calls Tryd.prog 44 #[.int .u8 x] w fun e w' => e = .returned (.tuple #[.int .i64 op, .agg #[.string N, .int .u8 B, .int .i64 4], .int .i64 0, .bool true]) ∧ Below w.heap.size w w')) :
    Calls Tryd.prog 16 #[.slice (some ⟨b, o, none⟩) n c, .int .i64 at_] w fun e w' => e = .returned (.tuple #[.agg #[.int .i64 0, .int .i64 0, .int .i64 0, .int .i32 0, .int .i64 0], .int .i64 0, .int .i64 10]) ∧ Below w.heap.size w w' := by
  have g0 : (at_ < 0) = False := by simp; omega
  have g1 : ((n : Int) < at_) = False := by simp; omega
  have g2 : (at_ = (n : Int)) = False := by simp; omega
  have g3 : (at_ == (n : Int)) = false := by simp; omega
  have hbb : ∀ k, (((w.alloc (.cells #[.int .i64 0, .int .i64 0, .int .i64 0, .int .i32 0, .int .i64 0] 25)).alloc (.cells #[.int .i64 0, .int .i64 0, .int .i64 0, .int .i32 0, .int .i64 0] 25)).alloc (.cells #[.string ⟨#[]⟩, .int .u8 0, .int .i64 0] 97)).cell? ⟨b, k, none⟩ = w.cell? ⟨b, k, none⟩ := by
    intro k
    rw [World.cell?_alloc_lt _ _ _ (by simp; omega), World.cell?_alloc_lt _ _ _ (by simp; omega), World.cell?_alloc_lt _ _ _ hb]
  go_enter Tryd.func16, Tryd.ntmps16
  go_wp2
  refine wp_scope_n (c' := decBody) 4 (by kernel_rfl) ?_
  go_wp2_with (first
    | (go_at_call 44; refine (Hfi.out _ (((hT.alloc _).alloc _).alloc _)).mono ?_; rintro e w2 ⟨rfl, hb2⟩; have hD2 := (DecW.init w).below hb2)
    | ((with_reducible show wpList _ _ _ (Oper.mk none (Op.store _ (Operand.tmp 37) (Operand.tmp 33)) _ _ _ _ :: _) _ _); refine wpList_storeI hD2 rfl 3 (.tmp 37) (.tmp 33) 0 .i64 op rfl (by kernel_rfl) (by kernel_rfl) (by simp) (by kernel_rfl) ?_; intro w3 hD3)
    | ((with_reducible show wpList _ _ _ (Oper.mk none (Op.store _ (Operand.tmp 8) (Operand.tmp 34)) _ _ _ _ :: _) _ _); refine wpList_storeX hD3 rfl 97 (.tmp 8) (.tmp 34) (.string N) (.int .u8 B) (.int .i64 4) rfl (by kernel_rfl) (by kernel_rfl) (by simp [Value.oneCell']) (by kernel_rfl) ?_; intro w4 hD4)
    | ((with_reducible show wpList _ _ _ (Oper.mk none (Op.store _ (Operand.tmp 38) (Operand.tmp 35)) _ _ _ _ :: _) _ _); refine wpList_storeI hD4 rfl 3 (.tmp 38) (.tmp 35) 4 .i64 0 rfl (by kernel_rfl) (by kernel_rfl) (by simp) (by kernel_rfl) ?_; intro w5 hD5; obtain ⟨i0, i1, i2, i3, i4⟩ := hD5.ins; obtain ⟨x1, x2⟩ := hD5.op))
  go_step3
  refine jump_to (by kernel_rfl) ?_
  conv in restOf _ _ => whnf
  go_wp2_with fail
  go_step3
  refine jump_to (by kernel_rfl) ?_
  conv in restOf _ _ => whnf
  go_wp2_with (first
    | ((with_reducible show wpList _ _ _ (Oper.mk none (Op.store _ (Operand.tmp 4) (Operand.tmp 143)) _ _ _ _ :: _) _ _); refine wpList_storeR hD5 rfl 25 (.tmp 4) (.tmp 143) (.int .i64 0) (.int .i64 0) (.int .i64 0) (.int .i32 0) (.int .i64 0) rfl (by kernel_rfl) (by kernel_rfl) (by simp [Value.oneCell']) (by kernel_rfl) ?_; intro w8 hB8 hz8; obtain ⟨z0, z1, z2, z3, z4⟩ := hz8))
  rw [jumpQ_ret]
  refine bodyPost_ret (v := .tuple #[.agg #[.int .i64 0, .int .i64 0, .int .i64 0, .int .i32 0, .int .i64 0], .int .i64 0, .int .i64 10]) (by simp [results, Tryd.results16, go_sem, z0, z1, z2, z3, z4]) rfl ⟨rfl, hB8⟩

set_option maxHeartbeats 1000000 in
theorem dec_4_0_shortc (b o n c F m : Nat) (at_ x : Int) (op B : Int) (N : ByteArray) (w : World) (hT : TabIs 0 w) (h0 : 0 ≤ at_) (h1 : at_ < n) (hn : (n : Int) ≤ 140737488351232) (hnc : n ≤ c) (hb : b < w.heap.size)
    (hF : (at_ + 1).toNat = F) (hm : n - F = m) (hcF : (c = F) = True) (hm0 : m = 0) (hmI : (n : Int) - (F : Int) = m) (hcap : F ≤ n) (hlen : (m : Int) < 1)
    (hx : w.cell? ⟨b, o + at_.toNat, none⟩ = some (.int .u8 x)) 
    (Hfi : Hid (∀ w, TabIs 0 w → Calls Tryd.prog 44 #[.int .u8 x] w fun e w' => e = .returned (.tuple #[.int .i64 op, .agg #[.string N, .int .u8 B, .int .i64 4], .int .i64 0, .bool true]) ∧ Below w.heap.size w w')) :
    Calls Tryd.prog 16 #[.slice (some ⟨b, o, none⟩) n c, .int .i64 at_] w fun e w' => e = .returned (.tuple #[.agg #[.int .i64 0, .int .i64 0, .int .i64 0, .int .i32 0, .int .i64 0], .int .i64 0, .int .i64 10]) ∧ Below w.heap.size w w' := by
  have g0 : (at_ < 0) = False := by simp; omega
  have g1 : ((n : Int) < at_) = False := by simp; omega
  have g2 : (at_ = (n : Int)) = False := by simp; omega
  have g3 : (at_ == (n : Int)) = false := by simp; omega
  have hbb : ∀ k, (((w.alloc (.cells #[.int .i64 0, .int .i64 0, .int .i64 0, .int .i32 0, .int .i64 0] 25)).alloc (.cells #[.int .i64 0, .int .i64 0, .int .i64 0, .int .i32 0, .int .i64 0] 25)).alloc (.cells #[.string ⟨#[]⟩, .int .u8 0, .int .i64 0] 97)).cell? ⟨b, k, none⟩ = w.cell? ⟨b, k, none⟩ := by
    intro k
    rw [World.cell?_alloc_lt _ _ _ (by simp; omega), World.cell?_alloc_lt _ _ _ (by simp; omega), World.cell?_alloc_lt _ _ _ hb]
  go_enter Tryd.func16, Tryd.ntmps16
  go_wp2
  refine wp_scope_n (c' := decBody) 4 (by kernel_rfl) ?_
  go_wp2_with (first
    | (go_at_call 44; refine (Hfi.out _ (((hT.alloc _).alloc _).alloc _)).mono ?_; rintro e w2 ⟨rfl, hb2⟩; have hD2 := (DecW.init w).below hb2)
    | ((with_reducible show wpList _ _ _ (Oper.mk none (Op.store _ (Operand.tmp 37) (Operand.tmp 33)) _ _ _ _ :: _) _ _); refine wpList_storeI hD2 rfl 3 (.tmp 37) (.tmp 33) 0 .i64 op rfl (by kernel_rfl) (by kernel_rfl) (by simp) (by kernel_rfl) ?_; intro w3 hD3)
    | ((with_reducible show wpList _ _ _ (Oper.mk none (Op.store _ (Operand.tmp 8) (Operand.tmp 34)) _ _ _ _ :: _) _ _); refine wpList_storeX hD3 rfl 97 (.tmp 8) (.tmp 34) (.string N) (.int .u8 B) (.int .i64 4) rfl (by kernel_rfl) (by kernel_rfl) (by simp [Value.oneCell']) (by kernel_rfl) ?_; intro w4 hD4)
    | ((with_reducible show wpList _ _ _ (Oper.mk none (Op.store _ (Operand.tmp 38) (Operand.tmp 35)) _ _ _ _ :: _) _ _); refine wpList_storeI hD4 rfl 3 (.tmp 38) (.tmp 35) 4 .i64 0 rfl (by kernel_rfl) (by kernel_rfl) (by simp) (by kernel_rfl) ?_; intro w5 hD5; obtain ⟨i0, i1, i2, i3, i4⟩ := hD5.ins; obtain ⟨x1, x2⟩ := hD5.op))
  go_step3
  refine jump_to (by kernel_rfl) ?_
  conv in restOf _ _ => whnf
  go_wp2_with fail
  go_step3
  refine jump_to (by kernel_rfl) ?_
  conv in restOf _ _ => whnf
  go_wp2_with (first
    | ((with_reducible show wpList _ _ _ (Oper.mk none (Op.store _ (Operand.tmp 4) (Operand.tmp 143)) _ _ _ _ :: _) _ _); refine wpList_storeR hD5 rfl 25 (.tmp 4) (.tmp 143) (.int .i64 0) (.int .i64 0) (.int .i64 0) (.int .i32 0) (.int .i64 0) rfl (by kernel_rfl) (by kernel_rfl) (by simp [Value.oneCell']) (by kernel_rfl) ?_; intro w8 hB8 hz8; obtain ⟨z0, z1, z2, z3, z4⟩ := hz8))
  rw [jumpQ_ret]
  refine bodyPost_ret (v := .tuple #[.agg #[.int .i64 0, .int .i64 0, .int .i64 0, .int .i32 0, .int .i64 0], .int .i64 0, .int .i64 10]) (by simp [results, Tryd.results16, go_sem, z0, z1, z2, z3, z4]) rfl ⟨rfl, hB8⟩

set_option maxHeartbeats 1000000 in
theorem dec_5_0_ok (b o n c F m : Nat) (at_ x : Int) (op B : Int) (N : ByteArray) (w : World) (hT : TabIs 0 w) (h0 : 0 ≤ at_) (h1 : at_ < n) (hn : (n : Int) ≤ 140737488351232) (hnc : n ≤ c) (hb : b < w.heap.size)
    (hF : (at_ + 1).toNat = F) (hm : n - F = m) (hcF : (c = F) = False) (hmI : (n : Int) - (F : Int) = m) (hcap : F ≤ n) (hlen : 1 ≤ (m : Int))
    (hx : w.cell? ⟨b, o + at_.toNat, none⟩ = some (.int .u8 x)) (r1 : Int) (hr1 : 0 ≤ r1 ∧ r1 < 256) (hx1 : w.cell? ⟨b, o + F, none⟩ = some (.int .u8 r1)) (Hch : Hid (∀ w, TabIs 0 w → Calls Tryd.prog 46 #[.agg #[.int .i64 op, .int .i64 (r1 / 16), .int .i64 (r1 % 16), .int .i32 0, .int .i64 0]] w fun e w' => e = .returned (.int .i64 0) ∧ Below w.heap.size w w'))
    (Hfi : Hid (∀ w, TabIs 0 w → Calls Tryd.prog 44 #[.int .u8 x] w fun e w' => e = .returned (.tuple #[.int .i64 op, .agg #[.string N, .int .u8 B, .int .i64 5], .int .i64 0, .bool true]) ∧ Below w.heap.size w w')) :
    Calls Tryd.prog 16 #[.slice (some ⟨b, o, none⟩) n c, .int .i64 at_] w fun e w' => e = .returned (.tuple #[.agg #[.int .i64 op, .int .i64 (r1 / 16), .int .i64 (r1 % 16), .int .i32 0, .int .i64 0], .int .i64 2, .int .i64 0]) ∧ Below w.heap.size w w' := by
  have g0 : (at_ < 0) = False := by simp; omega
  have g1 : ((n : Int) < at_) = False := by simp; omega
  have g2 : (at_ = (n : Int)) = False := by simp; omega
  have g3 : (at_ == (n : Int)) = false := by simp; omega
  have hbb : ∀ k, (((w.alloc (.cells #[.int .i64 0, .int .i64 0, .int .i64 0, .int .i32 0, .int .i64 0] 25)).alloc (.cells #[.int .i64 0, .int .i64 0, .int .i64 0, .int .i32 0, .int .i64 0] 25)).alloc (.cells #[.string ⟨#[]⟩, .int .u8 0, .int .i64 0] 97)).cell? ⟨b, k, none⟩ = w.cell? ⟨b, k, none⟩ := by
    intro k
    rw [World.cell?_alloc_lt _ _ _ (by simp; omega), World.cell?_alloc_lt _ _ _ (by simp; omega), World.cell?_alloc_lt _ _ _ hb]
  obtain ⟨hr10, hr11⟩ := hr1
  go_enter Tryd.func16, Tryd.ntmps16
  go_wp2
  refine wp_scope_n (c' := decBody) 4 (by kernel_rfl) ?_
  go_wp2_with (first
    | (go_at_call 44; refine (Hfi.out _ (((hT.alloc _).alloc _).alloc _)).mono ?_; rintro e w2 ⟨rfl, hb2⟩; have hD2 := (DecW.init w).below hb2)
    | ((with_reducible show wpList _ _ _ (Oper.mk none (Op.store _ (Operand.tmp 37) (Operand.tmp 33)) _ _ _ _ :: _) _ _); refine wpList_storeI hD2 rfl 3 (.tmp 37) (.tmp 33) 0 .i64 op rfl (by kernel_rfl) (by kernel_rfl) (by simp) (by kernel_rfl) ?_; intro w3 hD3)
    | ((with_reducible show wpList _ _ _ (Oper.mk none (Op.store _ (Operand.tmp 8) (Operand.tmp 34)) _ _ _ _ :: _) _ _); refine wpList_storeX hD3 rfl 97 (.tmp 8) (.tmp 34) (.string N) (.int .u8 B) (.int .i64 5) rfl (by kernel_rfl) (by kernel_rfl) (by simp [Value.oneCell']) (by kernel_rfl) ?_; intro w4 hD4)
    | ((with_reducible show wpList _ _ _ (Oper.mk none (Op.store _ (Operand.tmp 38) (Operand.tmp 35)) _ _ _ _ :: _) _ _); refine wpList_storeI hD4 rfl 3 (.tmp 38) (.tmp 35) 4 .i64 0 rfl (by kernel_rfl) (by kernel_rfl) (by simp) (by kernel_rfl) ?_; intro w5 hD5; obtain ⟨i0, i1, i2, i3, i4⟩ := hD5.ins; obtain ⟨x1, x2⟩ := hD5.op; have r1c := (hD5.byte (k := o + F) hb).trans hx1))
  go_step3
  refine jump_to (by kernel_rfl) ?_
  conv in restOf _ _ => whnf
  go_wp2_with fail
  have hmN : 0 < m := by omega
  have hsh : IntKind.i64.wrap (r1 / 16) = r1 / 16 := wrap64_small (by omega) (by omega)
  have han : bits BinOp.and IntKind.u8 r1 15 = r1 % 16 := and15 hr10 hr11
  have haw : IntKind.i64.wrap (r1 % 16) = r1 % 16 := wrap64_small (by omega) (by omega)
  refine held_start (ops' := dec38) (l0 := #[false, false, false, false, false, false, false, false, false, false, false, false, false, false]) (S := fun w' => w'.cell? ⟨b, o + F, none⟩ = some (.int .u8 r1)) (by kernel_rfl) (by kernel_rfl) (by kernel_rfl) (by kernel_rfl) r1c (fun R hR => ?_)
  have hDd := hD5.drew
  (refine held_take (v := ?_) (d := some 104) 0 (by kernel_rfl) (by kernel_rfl) rfl ?_ ?_
   rotate_left
   · intro w hSw
     conv in opOf _ _ => whnf
     (try obtain ⟨hs1, hs2⟩ := hSw)
     go_simp
     try (with_reducible rfl)
   try simp only [Act.put, List.setIfInBounds_toArray, List.set_cons_zero, List.set_cons_succ])
  (refine held_take (v := ?_) (d := some 105) 1 (by kernel_rfl) (by kernel_rfl) rfl ?_ ?_
   rotate_left
   · intro w hSw
     conv in opOf _ _ => whnf
     (try obtain ⟨hs1, hs2⟩ := hSw)
     go_simp
     try (with_reducible rfl)
   try simp only [Act.put, List.setIfInBounds_toArray, List.set_cons_zero, List.set_cons_succ])
  (refine held_take (v := ?_) (d := some 106) 2 (by kernel_rfl) (by kernel_rfl) rfl ?_ ?_
   rotate_left
   · intro w hSw
     conv in opOf _ _ => whnf
     (try obtain ⟨hs1, hs2⟩ := hSw)
     go_simp
     try (with_reducible rfl)
   try simp only [Act.put, List.setIfInBounds_toArray, List.set_cons_zero, List.set_cons_succ])
  (refine held_take (v := ?_) (d := some 107) 3 (by kernel_rfl) (by kernel_rfl) rfl ?_ ?_
   rotate_left
   · intro w hSw
     conv in opOf _ _ => whnf
     (try obtain ⟨hs1, hs2⟩ := hSw)
     go_simp
     try (with_reducible rfl)
   try simp only [Act.put, List.setIfInBounds_toArray, List.set_cons_zero, List.set_cons_succ])
  (refine held_take (v := ?_) (d := some 108) 4 (by kernel_rfl) (by kernel_rfl) rfl ?_ ?_
   rotate_left
   · intro w hSw
     conv in opOf _ _ => whnf
     (try obtain ⟨hs1, hs2⟩ := hSw)
     go_simp
     try simp only [hsh]
     try (with_reducible rfl)
   try simp only [Act.put, List.setIfInBounds_toArray, List.set_cons_zero, List.set_cons_succ])
  (refine held_take (v := ?_) (d := some 109) 5 (by kernel_rfl) (by kernel_rfl) rfl ?_ ?_
   rotate_left
   · intro w hSw
     conv in opOf _ _ => whnf
     (try obtain ⟨hs1, hs2⟩ := hSw)
     go_simp
     try (with_reducible rfl)
   try simp only [Act.put, List.setIfInBounds_toArray, List.set_cons_zero, List.set_cons_succ])
  (refine held_take (v := ?_) (d := some 110) 6 (by kernel_rfl) (by kernel_rfl) rfl ?_ ?_
   rotate_left
   · intro w hSw
     conv in opOf _ _ => whnf
     (try obtain ⟨hs1, hs2⟩ := hSw)
     go_simp
     try (with_reducible rfl)
   try simp only [Act.put, List.setIfInBounds_toArray, List.set_cons_zero, List.set_cons_succ])
  (refine held_take (v := ?_) (d := some 114) 10 (by kernel_rfl) (by kernel_rfl) rfl ?_ ?_
   rotate_left
   · intro w hSw
     conv in opOf _ _ => whnf
     (try obtain ⟨hs1, hs2⟩ := hSw)
     go_simp
     try (with_reducible rfl)
   try simp only [Act.put, List.setIfInBounds_toArray, List.set_cons_zero, List.set_cons_succ])
  refine held_two 7 11 (by kernel_rfl) (by kernel_rfl) (by kernel_rfl) ?_ ?_
  · (refine held_run (v := ?_) (w' := ?_) (d := some 111) 7 (by kernel_rfl) (by kernel_rfl) rfl ?_ ?_
     rotate_left 2
     · intro hSw
       (try obtain ⟨hs1, hs2⟩ := hSw)
       conv in opOf _ _ => whnf
       go_simp
       first | done | (with_reducible rfl) | (constructor <;> with_reducible rfl)
     intro hS
     refine ⟨hS, ?_⟩
     try simp only [Act.put, List.setIfInBounds_toArray, List.set_cons_zero, List.set_cons_succ])
    (refine held_take (v := ?_) (d := some 112) 8 (by kernel_rfl) (by kernel_rfl) rfl ?_ ?_
     rotate_left
     · intro w hSw
       conv in opOf _ _ => whnf
       (try obtain ⟨hs1, hs2⟩ := hSw)
       go_simp
       try simp only [han]
       try (with_reducible rfl)
     try simp only [Act.put, List.setIfInBounds_toArray, List.set_cons_zero, List.set_cons_succ])
    (refine held_take (v := ?_) (d := some 113) 9 (by kernel_rfl) (by kernel_rfl) rfl ?_ ?_
     rotate_left
     · intro w hSw
       conv in opOf _ _ => whnf
       (try obtain ⟨hs1, hs2⟩ := hSw)
       go_simp
       try simp only [haw]
       try (with_reducible rfl)
     try simp only [Act.put, List.setIfInBounds_toArray, List.set_cons_zero, List.set_cons_succ])
    (refine held_one 11 (by kernel_rfl) (by kernel_rfl) (held_storeI hDd (d := none) 11 (by kernel_rfl) (by kernel_rfl) rfl 3 (.tmp 114) (.tmp 108) 1 .i64 (r1 / 16) (by kernel_rfl) (by kernel_rfl) (by kernel_rfl) (by simp) (by kernel_rfl) (fun wa hDa => ⟨(hDa.byte (k := o + F) hb).trans hx1, ?_⟩))
     try simp only [Act.put, List.setIfInBounds_toArray, List.set_cons_zero, List.set_cons_succ])
    (refine held_take (v := ?_) (d := some 115) 12 (by kernel_rfl) (by kernel_rfl) rfl ?_ ?_
     rotate_left
     · intro w hSw
       conv in opOf _ _ => whnf
       (try obtain ⟨hs1, hs2⟩ := hSw)
       go_simp
       try (with_reducible rfl)
     try simp only [Act.put, List.setIfInBounds_toArray, List.set_cons_zero, List.set_cons_succ])
    (refine held_one 13 (by kernel_rfl) (by kernel_rfl) (held_storeI hDa (d := none) 13 (by kernel_rfl) (by kernel_rfl) rfl 3 (.tmp 115) (.tmp 113) 2 .i64 (r1 % 16) (by kernel_rfl) (by kernel_rfl) (by kernel_rfl) (by simp) (by kernel_rfl) (fun w7 hD7 => ⟨(hD7.byte (k := o + F) hb).trans hx1, ?_⟩))
     try simp only [Act.put, List.setIfInBounds_toArray, List.set_cons_zero, List.set_cons_succ])
    refine held_done (by kernel_rfl) (fun hS => hR.out _ _ ?_)
    obtain ⟨u0, u1, u2, u3, u4⟩ := hD7.ins
    go_wp2_with fail
    go_step3
    refine jump_to (by kernel_rfl) ?_
    conv in restOf _ _ => whnf
    go_wp2_with (first
      | (go_at_call 46; refine (Hch.out _ (hD7.tab hT)).mono ?_; rintro e w9 ⟨rfl, hb9⟩; have hD9 := hD7.below hb9; obtain ⟨k0, k1, k2, k3, k4⟩ := hD9.ins)
      | ((with_reducible show wpList _ _ _ (Oper.mk none (Op.store _ (Operand.tmp 4) (Operand.tmp 140)) _ _ _ _ :: _) _ _); refine wpList_storeR hD9 rfl 25 (.tmp 4) (.tmp 140) (.int .i64 op) (.int .i64 (r1 / 16)) (.int .i64 (r1 % 16)) (.int .i32 0) (.int .i64 0) rfl (by kernel_rfl) (by kernel_rfl) (by simp [Value.oneCell']) (by kernel_rfl) ?_; intro w8 hB8 hz8; obtain ⟨z0, z1, z2, z3, z4⟩ := hz8))
    rw [jumpQ_ret]
    refine bodyPost_ret (v := .tuple #[.agg #[.int .i64 op, .int .i64 (r1 / 16), .int .i64 (r1 % 16), .int .i32 0, .int .i64 0], .int .i64 2, .int .i64 0]) (by simp [results, Tryd.results16, go_sem, z0, z1, z2, z3, z4]) rfl ⟨rfl, hB8⟩
  · (refine held_storeI hDd (d := none) 11 (by kernel_rfl) (by kernel_rfl) rfl 3 (.tmp 114) (.tmp 108) 1 .i64 (r1 / 16) (by kernel_rfl) (by kernel_rfl) (by kernel_rfl) (by simp) (by kernel_rfl) (fun wa hDa => ⟨(hDa.byte (k := o + F) hb).trans hx1, ?_⟩)
     try simp only [Act.put, List.setIfInBounds_toArray, List.set_cons_zero, List.set_cons_succ])
    (refine held_take (v := ?_) (d := some 111) 7 (by kernel_rfl) (by kernel_rfl) rfl ?_ ?_
     rotate_left
     · intro w hSw
       conv in opOf _ _ => whnf
       (try obtain ⟨hs1, hs2⟩ := hSw)
       go_simp
       try (with_reducible rfl)
     try simp only [Act.put, List.setIfInBounds_toArray, List.set_cons_zero, List.set_cons_succ])
    (refine held_take (v := ?_) (d := some 112) 8 (by kernel_rfl) (by kernel_rfl) rfl ?_ ?_
     rotate_left
     · intro w hSw
       conv in opOf _ _ => whnf
       (try obtain ⟨hs1, hs2⟩ := hSw)
       go_simp
       try simp only [han]
       try (with_reducible rfl)
     try simp only [Act.put, List.setIfInBounds_toArray, List.set_cons_zero, List.set_cons_succ])
    (refine held_take (v := ?_) (d := some 113) 9 (by kernel_rfl) (by kernel_rfl) rfl ?_ ?_
     rotate_left
     · intro w hSw
       conv in opOf _ _ => whnf
       (try obtain ⟨hs1, hs2⟩ := hSw)
       go_simp
       try simp only [haw]
       try (with_reducible rfl)
     try simp only [Act.put, List.setIfInBounds_toArray, List.set_cons_zero, List.set_cons_succ])
    (refine held_take (v := ?_) (d := some 115) 12 (by kernel_rfl) (by kernel_rfl) rfl ?_ ?_
     rotate_left
     · intro w hSw
       conv in opOf _ _ => whnf
       (try obtain ⟨hs1, hs2⟩ := hSw)
       go_simp
       try (with_reducible rfl)
     try simp only [Act.put, List.setIfInBounds_toArray, List.set_cons_zero, List.set_cons_succ])
    (refine held_one 13 (by kernel_rfl) (by kernel_rfl) (held_storeI hDa (d := none) 13 (by kernel_rfl) (by kernel_rfl) rfl 3 (.tmp 115) (.tmp 113) 2 .i64 (r1 % 16) (by kernel_rfl) (by kernel_rfl) (by kernel_rfl) (by simp) (by kernel_rfl) (fun w7 hD7 => ⟨(hD7.byte (k := o + F) hb).trans hx1, ?_⟩))
     try simp only [Act.put, List.setIfInBounds_toArray, List.set_cons_zero, List.set_cons_succ])
    refine held_done (by kernel_rfl) (fun hS => hR.out _ _ ?_)
    obtain ⟨u0, u1, u2, u3, u4⟩ := hD7.ins
    go_wp2_with fail
    go_step3
    refine jump_to (by kernel_rfl) ?_
    conv in restOf _ _ => whnf
    go_wp2_with (first
      | (go_at_call 46; refine (Hch.out _ (hD7.tab hT)).mono ?_; rintro e w9 ⟨rfl, hb9⟩; have hD9 := hD7.below hb9; obtain ⟨k0, k1, k2, k3, k4⟩ := hD9.ins)
      | ((with_reducible show wpList _ _ _ (Oper.mk none (Op.store _ (Operand.tmp 4) (Operand.tmp 140)) _ _ _ _ :: _) _ _); refine wpList_storeR hD9 rfl 25 (.tmp 4) (.tmp 140) (.int .i64 op) (.int .i64 (r1 / 16)) (.int .i64 (r1 % 16)) (.int .i32 0) (.int .i64 0) rfl (by kernel_rfl) (by kernel_rfl) (by simp [Value.oneCell']) (by kernel_rfl) ?_; intro w8 hB8 hz8; obtain ⟨z0, z1, z2, z3, z4⟩ := hz8))
    rw [jumpQ_ret]
    refine bodyPost_ret (v := .tuple #[.agg #[.int .i64 op, .int .i64 (r1 / 16), .int .i64 (r1 % 16), .int .i32 0, .int .i64 0], .int .i64 2, .int .i64 0]) (by simp [results, Tryd.results16, go_sem, z0, z1, z2, z3, z4]) rfl ⟨rfl, hB8⟩

set_option maxHeartbeats 1000000 in
theorem dec_5_0_bad (b o n c F m : Nat) (at_ x : Int) (op B : Int) (N : ByteArray) (w : World) (hT : TabIs 0 w) (h0 : 0 ≤ at_) (h1 : at_ < n) (hn : (n : Int) ≤ 140737488351232) (hnc : n ≤ c) (hb : b < w.heap.size)
    (hF : (at_ + 1).toNat = F) (hm : n - F = m) (hcF : (c = F) = False) (hmI : (n : Int) - (F : Int) = m) (hcap : F ≤ n) (hlen : 1 ≤ (m : Int))
    (hx : w.cell? ⟨b, o + at_.toNat, none⟩ = some (.int .u8 x)) (r1 : Int) (hr1 : 0 ≤ r1 ∧ r1 < 256) (hx1 : w.cell? ⟨b, o + F, none⟩ = some (.int .u8 r1)) (C : Int) (hC : (C == 0) = false) (Hch : Hid (∀ w, TabIs 0 w → Calls Tryd.prog 46 #[.agg #[.int .i64 op, .int .i64 (r1 / 16), .int .i64 (r1 % 16), .int .i32 0, .int .i64 0]] w fun e w' => e = .returned (.int .i64 C) ∧ Below w.heap.size w w'))
    (Hfi : Hid (∀ w, TabIs 0 w → Calls Tryd.prog 44 #[.int .u8 x] w fun e w' => e = .returned (.tuple #[.int .i64 op, .agg #[.string N, .int .u8 B, .int .i64 5], .int .i64 0, .bool true]) ∧ Below w.heap.size w w')) :
    Calls Tryd.prog 16 #[.slice (some ⟨b, o, none⟩) n c, .int .i64 at_] w fun e w' => e = .returned (.tuple #[.agg #[.int .i64 0, .int .i64 0, .int .i64 0, .int .i32 0, .int .i64 0], .int .i64 0, .int .i64 C]) ∧ Below w.heap.size w w' := by
  have g0 : (at_ < 0) = False := by simp; omega
  have g1 : ((n : Int) < at_) = False := by simp; omega
  have g2 : (at_ = (n : Int)) = False := by simp; omega
  have g3 : (at_ == (n : Int)) = false := by simp; omega
  have hbb : ∀ k, (((w.alloc (.cells #[.int .i64 0, .int .i64 0, .int .i64 0, .int .i32 0, .int .i64 0] 25)).alloc (.cells #[.int .i64 0, .int .i64 0, .int .i64 0, .int .i32 0, .int .i64 0] 25)).alloc (.cells #[.string ⟨#[]⟩, .int .u8 0, .int .i64 0] 97)).cell? ⟨b, k, none⟩ = w.cell? ⟨b, k, none⟩ := by
    intro k
    rw [World.cell?_alloc_lt _ _ _ (by simp; omega), World.cell?_alloc_lt _ _ _ (by simp; omega), World.cell?_alloc_lt _ _ _ hb]
  obtain ⟨hr10, hr11⟩ := hr1
  go_enter Tryd.func16, Tryd.ntmps16
  go_wp2
  refine wp_scope_n (c' := decBody) 4 (by kernel_rfl) ?_
  go_wp2_with (first
    | (go_at_call 44; refine (Hfi.out _ (((hT.alloc _).alloc _).alloc _)).mono ?_; rintro e w2 ⟨rfl, hb2⟩; have hD2 := (DecW.init w).below hb2)
    | ((with_reducible show wpList _ _ _ (Oper.mk none (Op.store _ (Operand.tmp 37) (Operand.tmp 33)) _ _ _ _ :: _) _ _); refine wpList_storeI hD2 rfl 3 (.tmp 37) (.tmp 33) 0 .i64 op rfl (by kernel_rfl) (by kernel_rfl) (by simp) (by kernel_rfl) ?_; intro w3 hD3)
    | ((with_reducible show wpList _ _ _ (Oper.mk none (Op.store _ (Operand.tmp 8) (Operand.tmp 34)) _ _ _ _ :: _) _ _); refine wpList_storeX hD3 rfl 97 (.tmp 8) (.tmp 34) (.string N) (.int .u8 B) (.int .i64 5) rfl (by kernel_rfl) (by kernel_rfl) (by simp [Value.oneCell']) (by kernel_rfl) ?_; intro w4 hD4)
    | ((with_reducible show wpList _ _ _ (Oper.mk none (Op.store _ (Operand.tmp 38) (Operand.tmp 35)) _ _ _ _ :: _) _ _); refine wpList_storeI hD4 rfl 3 (.tmp 38) (.tmp 35) 4 .i64 0 rfl (by kernel_rfl) (by kernel_rfl) (by simp) (by kernel_rfl) ?_; intro w5 hD5; obtain ⟨i0, i1, i2, i3, i4⟩ := hD5.ins; obtain ⟨x1, x2⟩ := hD5.op; have r1c := (hD5.byte (k := o + F) hb).trans hx1))
  go_step3
  refine jump_to (by kernel_rfl) ?_
  conv in restOf _ _ => whnf
  go_wp2_with fail
  have hmN : 0 < m := by omega
  have hsh : IntKind.i64.wrap (r1 / 16) = r1 / 16 := wrap64_small (by omega) (by omega)
  have han : bits BinOp.and IntKind.u8 r1 15 = r1 % 16 := and15 hr10 hr11
  have haw : IntKind.i64.wrap (r1 % 16) = r1 % 16 := wrap64_small (by omega) (by omega)
  refine held_start (ops' := dec38) (l0 := #[false, false, false, false, false, false, false, false, false, false, false, false, false, false]) (S := fun w' => w'.cell? ⟨b, o + F, none⟩ = some (.int .u8 r1)) (by kernel_rfl) (by kernel_rfl) (by kernel_rfl) (by kernel_rfl) r1c (fun R hR => ?_)
  have hDd := hD5.drew
  (refine held_take (v := ?_) (d := some 104) 0 (by kernel_rfl) (by kernel_rfl) rfl ?_ ?_
   rotate_left
   · intro w hSw
     conv in opOf _ _ => whnf
     (try obtain ⟨hs1, hs2⟩ := hSw)
     go_simp
     try (with_reducible rfl)
   try simp only [Act.put, List.setIfInBounds_toArray, List.set_cons_zero, List.set_cons_succ])
  (refine held_take (v := ?_) (d := some 105) 1 (by kernel_rfl) (by kernel_rfl) rfl ?_ ?_
   rotate_left
   · intro w hSw
     conv in opOf _ _ => whnf
     (try obtain ⟨hs1, hs2⟩ := hSw)
     go_simp
     try (with_reducible rfl)
   try simp only [Act.put, List.setIfInBounds_toArray, List.set_cons_zero, List.set_cons_succ])
  (refine held_take (v := ?_) (d := some 106) 2 (by kernel_rfl) (by kernel_rfl) rfl ?_ ?_
   rotate_left
   · intro w hSw
     conv in opOf _ _ => whnf
     (try obtain ⟨hs1, hs2⟩ := hSw)
     go_simp
     try (with_reducible rfl)
   try simp only [Act.put, List.setIfInBounds_toArray, List.set_cons_zero, List.set_cons_succ])
  (refine held_take (v := ?_) (d := some 107) 3 (by kernel_rfl) (by kernel_rfl) rfl ?_ ?_
   rotate_left
   · intro w hSw
     conv in opOf _ _ => whnf
     (try obtain ⟨hs1, hs2⟩ := hSw)
     go_simp
     try (with_reducible rfl)
   try simp only [Act.put, List.setIfInBounds_toArray, List.set_cons_zero, List.set_cons_succ])
  (refine held_take (v := ?_) (d := some 108) 4 (by kernel_rfl) (by kernel_rfl) rfl ?_ ?_
   rotate_left
   · intro w hSw
     conv in opOf _ _ => whnf
     (try obtain ⟨hs1, hs2⟩ := hSw)
     go_simp
     try simp only [hsh]
     try (with_reducible rfl)
   try simp only [Act.put, List.setIfInBounds_toArray, List.set_cons_zero, List.set_cons_succ])
  (refine held_take (v := ?_) (d := some 109) 5 (by kernel_rfl) (by kernel_rfl) rfl ?_ ?_
   rotate_left
   · intro w hSw
     conv in opOf _ _ => whnf
     (try obtain ⟨hs1, hs2⟩ := hSw)
     go_simp
     try (with_reducible rfl)
   try simp only [Act.put, List.setIfInBounds_toArray, List.set_cons_zero, List.set_cons_succ])
  (refine held_take (v := ?_) (d := some 110) 6 (by kernel_rfl) (by kernel_rfl) rfl ?_ ?_
   rotate_left
   · intro w hSw
     conv in opOf _ _ => whnf
     (try obtain ⟨hs1, hs2⟩ := hSw)
     go_simp
     try (with_reducible rfl)
   try simp only [Act.put, List.setIfInBounds_toArray, List.set_cons_zero, List.set_cons_succ])
  (refine held_take (v := ?_) (d := some 114) 10 (by kernel_rfl) (by kernel_rfl) rfl ?_ ?_
   rotate_left
   · intro w hSw
     conv in opOf _ _ => whnf
     (try obtain ⟨hs1, hs2⟩ := hSw)
     go_simp
     try (with_reducible rfl)
   try simp only [Act.put, List.setIfInBounds_toArray, List.set_cons_zero, List.set_cons_succ])
  refine held_two 7 11 (by kernel_rfl) (by kernel_rfl) (by kernel_rfl) ?_ ?_
  · (refine held_run (v := ?_) (w' := ?_) (d := some 111) 7 (by kernel_rfl) (by kernel_rfl) rfl ?_ ?_
     rotate_left 2
     · intro hSw
       (try obtain ⟨hs1, hs2⟩ := hSw)
       conv in opOf _ _ => whnf
       go_simp
       first | done | (with_reducible rfl) | (constructor <;> with_reducible rfl)
     intro hS
     refine ⟨hS, ?_⟩
     try simp only [Act.put, List.setIfInBounds_toArray, List.set_cons_zero, List.set_cons_succ])
    (refine held_take (v := ?_) (d := some 112) 8 (by kernel_rfl) (by kernel_rfl) rfl ?_ ?_
     rotate_left
     · intro w hSw
       conv in opOf _ _ => whnf
       (try obtain ⟨hs1, hs2⟩ := hSw)
       go_simp
       try simp only [han]
       try (with_reducible rfl)
     try simp only [Act.put, List.setIfInBounds_toArray, List.set_cons_zero, List.set_cons_succ])
    (refine held_take (v := ?_) (d := some 113) 9 (by kernel_rfl) (by kernel_rfl) rfl ?_ ?_
     rotate_left
     · intro w hSw
       conv in opOf _ _ => whnf
       (try obtain ⟨hs1, hs2⟩ := hSw)
       go_simp
       try simp only [haw]
       try (with_reducible rfl)
     try simp only [Act.put, List.setIfInBounds_toArray, List.set_cons_zero, List.set_cons_succ])
    (refine held_one 11 (by kernel_rfl) (by kernel_rfl) (held_storeI hDd (d := none) 11 (by kernel_rfl) (by kernel_rfl) rfl 3 (.tmp 114) (.tmp 108) 1 .i64 (r1 / 16) (by kernel_rfl) (by kernel_rfl) (by kernel_rfl) (by simp) (by kernel_rfl) (fun wa hDa => ⟨(hDa.byte (k := o + F) hb).trans hx1, ?_⟩))
     try simp only [Act.put, List.setIfInBounds_toArray, List.set_cons_zero, List.set_cons_succ])
    (refine held_take (v := ?_) (d := some 115) 12 (by kernel_rfl) (by kernel_rfl) rfl ?_ ?_
     rotate_left
     · intro w hSw
       conv in opOf _ _ => whnf
       (try obtain ⟨hs1, hs2⟩ := hSw)
       go_simp
       try (with_reducible rfl)
     try simp only [Act.put, List.setIfInBounds_toArray, List.set_cons_zero, List.set_cons_succ])
    (refine held_one 13 (by kernel_rfl) (by kernel_rfl) (held_storeI hDa (d := none) 13 (by kernel_rfl) (by kernel_rfl) rfl 3 (.tmp 115) (.tmp 113) 2 .i64 (r1 % 16) (by kernel_rfl) (by kernel_rfl) (by kernel_rfl) (by simp) (by kernel_rfl) (fun w7 hD7 => ⟨(hD7.byte (k := o + F) hb).trans hx1, ?_⟩))
     try simp only [Act.put, List.setIfInBounds_toArray, List.set_cons_zero, List.set_cons_succ])
    refine held_done (by kernel_rfl) (fun hS => hR.out _ _ ?_)
    obtain ⟨u0, u1, u2, u3, u4⟩ := hD7.ins
    go_wp2_with fail
    go_step3
    refine jump_to (by kernel_rfl) ?_
    conv in restOf _ _ => whnf
    go_wp2_with (first
      | (go_at_call 46; refine (Hch.out _ (hD7.tab hT)).mono ?_; rintro e w9 ⟨rfl, hb9⟩; have hD9 := hD7.below hb9; obtain ⟨k0, k1, k2, k3, k4⟩ := hD9.ins))
    go_step3
    go_wp2_with (first
      | ((with_reducible show wpList _ _ _ (Oper.mk none (Op.store _ (Operand.tmp 4) (Operand.tmp 143)) _ _ _ _ :: _) _ _); refine wpList_storeR hD9 rfl 25 (.tmp 4) (.tmp 143) (.int .i64 0) (.int .i64 0) (.int .i64 0) (.int .i32 0) (.int .i64 0) rfl (by kernel_rfl) (by kernel_rfl) (by simp [Value.oneCell']) (by kernel_rfl) ?_; intro w8 hB8 hz8; obtain ⟨z0, z1, z2, z3, z4⟩ := hz8))
    rw [jumpQ_ret]
    refine bodyPost_ret (v := .tuple #[.agg #[.int .i64 0, .int .i64 0, .int .i64 0, .int .i32 0, .int .i64 0], .int .i64 0, .int .i64 C]) (by simp [results, Tryd.results16, go_sem, z0, z1, z2, z3, z4]) rfl ⟨rfl, hB8⟩
  · (refine held_storeI hDd (d := none) 11 (by kernel_rfl) (by kernel_rfl) rfl 3 (.tmp 114) (.tmp 108) 1 .i64 (r1 / 16) (by kernel_rfl) (by kernel_rfl) (by kernel_rfl) (by simp) (by kernel_rfl) (fun wa hDa => ⟨(hDa.byte (k := o + F) hb).trans hx1, ?_⟩)
     try simp only [Act.put, List.setIfInBounds_toArray, List.set_cons_zero, List.set_cons_succ])
    (refine held_take (v := ?_) (d := some 111) 7 (by kernel_rfl) (by kernel_rfl) rfl ?_ ?_
     rotate_left
     · intro w hSw
       conv in opOf _ _ => whnf
       (try obtain ⟨hs1, hs2⟩ := hSw)
       go_simp
       try (with_reducible rfl)
     try simp only [Act.put, List.setIfInBounds_toArray, List.set_cons_zero, List.set_cons_succ])
    (refine held_take (v := ?_) (d := some 112) 8 (by kernel_rfl) (by kernel_rfl) rfl ?_ ?_
     rotate_left
     · intro w hSw
       conv in opOf _ _ => whnf
       (try obtain ⟨hs1, hs2⟩ := hSw)
       go_simp
       try simp only [han]
       try (with_reducible rfl)
     try simp only [Act.put, List.setIfInBounds_toArray, List.set_cons_zero, List.set_cons_succ])
    (refine held_take (v := ?_) (d := some 113) 9 (by kernel_rfl) (by kernel_rfl) rfl ?_ ?_
     rotate_left
     · intro w hSw
       conv in opOf _ _ => whnf
       (try obtain ⟨hs1, hs2⟩ := hSw)
       go_simp
       try simp only [haw]
       try (with_reducible rfl)
     try simp only [Act.put, List.setIfInBounds_toArray, List.set_cons_zero, List.set_cons_succ])
    (refine held_take (v := ?_) (d := some 115) 12 (by kernel_rfl) (by kernel_rfl) rfl ?_ ?_
     rotate_left
     · intro w hSw
       conv in opOf _ _ => whnf
       (try obtain ⟨hs1, hs2⟩ := hSw)
       go_simp
       try (with_reducible rfl)
     try simp only [Act.put, List.setIfInBounds_toArray, List.set_cons_zero, List.set_cons_succ])
    (refine held_one 13 (by kernel_rfl) (by kernel_rfl) (held_storeI hDa (d := none) 13 (by kernel_rfl) (by kernel_rfl) rfl 3 (.tmp 115) (.tmp 113) 2 .i64 (r1 % 16) (by kernel_rfl) (by kernel_rfl) (by kernel_rfl) (by simp) (by kernel_rfl) (fun w7 hD7 => ⟨(hD7.byte (k := o + F) hb).trans hx1, ?_⟩))
     try simp only [Act.put, List.setIfInBounds_toArray, List.set_cons_zero, List.set_cons_succ])
    refine held_done (by kernel_rfl) (fun hS => hR.out _ _ ?_)
    obtain ⟨u0, u1, u2, u3, u4⟩ := hD7.ins
    go_wp2_with fail
    go_step3
    refine jump_to (by kernel_rfl) ?_
    conv in restOf _ _ => whnf
    go_wp2_with (first
      | (go_at_call 46; refine (Hch.out _ (hD7.tab hT)).mono ?_; rintro e w9 ⟨rfl, hb9⟩; have hD9 := hD7.below hb9; obtain ⟨k0, k1, k2, k3, k4⟩ := hD9.ins))
    go_step3
    go_wp2_with (first
      | ((with_reducible show wpList _ _ _ (Oper.mk none (Op.store _ (Operand.tmp 4) (Operand.tmp 143)) _ _ _ _ :: _) _ _); refine wpList_storeR hD9 rfl 25 (.tmp 4) (.tmp 143) (.int .i64 0) (.int .i64 0) (.int .i64 0) (.int .i32 0) (.int .i64 0) rfl (by kernel_rfl) (by kernel_rfl) (by simp [Value.oneCell']) (by kernel_rfl) ?_; intro w8 hB8 hz8; obtain ⟨z0, z1, z2, z3, z4⟩ := hz8))
    rw [jumpQ_ret]
    refine bodyPost_ret (v := .tuple #[.agg #[.int .i64 0, .int .i64 0, .int .i64 0, .int .i32 0, .int .i64 0], .int .i64 0, .int .i64 C]) (by simp [results, Tryd.results16, go_sem, z0, z1, z2, z3, z4]) rfl ⟨rfl, hB8⟩

set_option maxHeartbeats 1000000 in
theorem dec_5_0_short (b o n c F m : Nat) (at_ x : Int) (op B : Int) (N : ByteArray) (w : World) (hT : TabIs 0 w) (h0 : 0 ≤ at_) (h1 : at_ < n) (hn : (n : Int) ≤ 140737488351232) (hnc : n ≤ c) (hb : b < w.heap.size)
    (hF : (at_ + 1).toNat = F) (hm : n - F = m) (hcF : (c = F) = False) (hmI : (n : Int) - (F : Int) = m) (hcap : F ≤ n) (hlen : (m : Int) < 1)
    (hx : w.cell? ⟨b, o + at_.toNat, none⟩ = some (.int .u8 x)) 
    (Hfi : Hid (∀ w, TabIs 0 w → Calls Tryd.prog 44 #[.int .u8 x] w fun e w' => e = .returned (.tuple #[.int .i64 op, .agg #[.string N, .int .u8 B, .int .i64 5], .int .i64 0, .bool true]) ∧ Below w.heap.size w w')) :
    Calls Tryd.prog 16 #[.slice (some ⟨b, o, none⟩) n c, .int .i64 at_] w fun e w' => e = .returned (.tuple #[.agg #[.int .i64 0, .int .i64 0, .int .i64 0, .int .i32 0, .int .i64 0], .int .i64 0, .int .i64 10]) ∧ Below w.heap.size w w' := by
  have g0 : (at_ < 0) = False := by simp; omega
  have g1 : ((n : Int) < at_) = False := by simp; omega
  have g2 : (at_ = (n : Int)) = False := by simp; omega
  have g3 : (at_ == (n : Int)) = false := by simp; omega
  have hbb : ∀ k, (((w.alloc (.cells #[.int .i64 0, .int .i64 0, .int .i64 0, .int .i32 0, .int .i64 0] 25)).alloc (.cells #[.int .i64 0, .int .i64 0, .int .i64 0, .int .i32 0, .int .i64 0] 25)).alloc (.cells #[.string ⟨#[]⟩, .int .u8 0, .int .i64 0] 97)).cell? ⟨b, k, none⟩ = w.cell? ⟨b, k, none⟩ := by
    intro k
    rw [World.cell?_alloc_lt _ _ _ (by simp; omega), World.cell?_alloc_lt _ _ _ (by simp; omega), World.cell?_alloc_lt _ _ _ hb]
  go_enter Tryd.func16, Tryd.ntmps16
  go_wp2
  refine wp_scope_n (c' := decBody) 4 (by kernel_rfl) ?_
  go_wp2_with (first
    | (go_at_call 44; refine (Hfi.out _ (((hT.alloc _).alloc _).alloc _)).mono ?_; rintro e w2 ⟨rfl, hb2⟩; have hD2 := (DecW.init w).below hb2)
    | ((with_reducible show wpList _ _ _ (Oper.mk none (Op.store _ (Operand.tmp 37) (Operand.tmp 33)) _ _ _ _ :: _) _ _); refine wpList_storeI hD2 rfl 3 (.tmp 37) (.tmp 33) 0 .i64 op rfl (by kernel_rfl) (by kernel_rfl) (by simp) (by kernel_rfl) ?_; intro w3 hD3)
    | ((with_reducible show wpList _ _ _ (Oper.mk none (Op.store _ (Operand.tmp 8) (Operand.tmp 34)) _ _ _ _ :: _) _ _); refine wpList_storeX hD3 rfl 97 (.tmp 8) (.tmp 34) (.string N) (.int .u8 B) (.int .i64 5) rfl (by kernel_rfl) (by kernel_rfl) (by simp [Value.oneCell']) (by kernel_rfl) ?_; intro w4 hD4)
    | ((with_reducible show wpList _ _ _ (Oper.mk none (Op.store _ (Operand.tmp 38) (Operand.tmp 35)) _ _ _ _ :: _) _ _); refine wpList_storeI hD4 rfl 3 (.tmp 38) (.tmp 35) 4 .i64 0 rfl (by kernel_rfl) (by kernel_rfl) (by simp) (by kernel_rfl) ?_; intro w5 hD5; obtain ⟨i0, i1, i2, i3, i4⟩ := hD5.ins; obtain ⟨x1, x2⟩ := hD5.op))
  go_step3
  refine jump_to (by kernel_rfl) ?_
  conv in restOf _ _ => whnf
  go_wp2_with fail
  go_step3
  refine jump_to (by kernel_rfl) ?_
  conv in restOf _ _ => whnf
  go_wp2_with (first
    | ((with_reducible show wpList _ _ _ (Oper.mk none (Op.store _ (Operand.tmp 4) (Operand.tmp 143)) _ _ _ _ :: _) _ _); refine wpList_storeR hD5 rfl 25 (.tmp 4) (.tmp 143) (.int .i64 0) (.int .i64 0) (.int .i64 0) (.int .i32 0) (.int .i64 0) rfl (by kernel_rfl) (by kernel_rfl) (by simp [Value.oneCell']) (by kernel_rfl) ?_; intro w8 hB8 hz8; obtain ⟨z0, z1, z2, z3, z4⟩ := hz8))
  rw [jumpQ_ret]
  refine bodyPost_ret (v := .tuple #[.agg #[.int .i64 0, .int .i64 0, .int .i64 0, .int .i32 0, .int .i64 0], .int .i64 0, .int .i64 10]) (by simp [results, Tryd.results16, go_sem, z0, z1, z2, z3, z4]) rfl ⟨rfl, hB8⟩

set_option maxHeartbeats 1000000 in
theorem dec_5_0_shortc (b o n c F m : Nat) (at_ x : Int) (op B : Int) (N : ByteArray) (w : World) (hT : TabIs 0 w) (h0 : 0 ≤ at_) (h1 : at_ < n) (hn : (n : Int) ≤ 140737488351232) (hnc : n ≤ c) (hb : b < w.heap.size)
    (hF : (at_ + 1).toNat = F) (hm : n - F = m) (hcF : (c = F) = True) (hm0 : m = 0) (hmI : (n : Int) - (F : Int) = m) (hcap : F ≤ n) (hlen : (m : Int) < 1)
    (hx : w.cell? ⟨b, o + at_.toNat, none⟩ = some (.int .u8 x)) 
    (Hfi : Hid (∀ w, TabIs 0 w → Calls Tryd.prog 44 #[.int .u8 x] w fun e w' => e = .returned (.tuple #[.int .i64 op, .agg #[.string N, .int .u8 B, .int .i64 5], .int .i64 0, .bool true]) ∧ Below w.heap.size w w')) :
    Calls Tryd.prog 16 #[.slice (some ⟨b, o, none⟩) n c, .int .i64 at_] w fun e w' => e = .returned (.tuple #[.agg #[.int .i64 0, .int .i64 0, .int .i64 0, .int .i32 0, .int .i64 0], .int .i64 0, .int .i64 10]) ∧ Below w.heap.size w w' := by
  have g0 : (at_ < 0) = False := by simp; omega
  have g1 : ((n : Int) < at_) = False := by simp; omega
  have g2 : (at_ = (n : Int)) = False := by simp; omega
  have g3 : (at_ == (n : Int)) = false := by simp; omega
  have hbb : ∀ k, (((w.alloc (.cells #[.int .i64 0, .int .i64 0, .int .i64 0, .int .i32 0, .int .i64 0] 25)).alloc (.cells #[.int .i64 0, .int .i64 0, .int .i64 0, .int .i32 0, .int .i64 0] 25)).alloc (.cells #[.string ⟨#[]⟩, .int .u8 0, .int .i64 0] 97)).cell? ⟨b, k, none⟩ = w.cell? ⟨b, k, none⟩ := by
    intro k
    rw [World.cell?_alloc_lt _ _ _ (by simp; omega), World.cell?_alloc_lt _ _ _ (by simp; omega), World.cell?_alloc_lt _ _ _ hb]
  go_enter Tryd.func16, Tryd.ntmps16
  go_wp2
  refine wp_scope_n (c' := decBody) 4 (by kernel_rfl) ?_
  go_wp2_with (first
    | (go_at_call 44; refine (Hfi.out _ (((hT.alloc _).alloc _).alloc _)).mono ?_; rintro e w2 ⟨rfl, hb2⟩; have hD2 := (DecW.init w).below hb2)
    | ((with_reducible show wpList _ _ _ (Oper.mk none (Op.store _ (Operand.tmp 37) (Operand.tmp 33)) _ _ _ _ :: _) _ _); refine wpList_storeI hD2 rfl 3 (.tmp 37) (.tmp 33) 0 .i64 op rfl (by kernel_rfl) (by kernel_rfl) (by simp) (by kernel_rfl) ?_; intro w3 hD3)
    | ((with_reducible show wpList _ _ _ (Oper.mk none (Op.store _ (Operand.tmp 8) (Operand.tmp 34)) _ _ _ _ :: _) _ _); refine wpList_storeX hD3 rfl 97 (.tmp 8) (.tmp 34) (.string N) (.int .u8 B) (.int .i64 5) rfl (by kernel_rfl) (by kernel_rfl) (by simp [Value.oneCell']) (by kernel_rfl) ?_; intro w4 hD4)
    | ((with_reducible show wpList _ _ _ (Oper.mk none (Op.store _ (Operand.tmp 38) (Operand.tmp 35)) _ _ _ _ :: _) _ _); refine wpList_storeI hD4 rfl 3 (.tmp 38) (.tmp 35) 4 .i64 0 rfl (by kernel_rfl) (by kernel_rfl) (by simp) (by kernel_rfl) ?_; intro w5 hD5; obtain ⟨i0, i1, i2, i3, i4⟩ := hD5.ins; obtain ⟨x1, x2⟩ := hD5.op))
  go_step3
  refine jump_to (by kernel_rfl) ?_
  conv in restOf _ _ => whnf
  go_wp2_with fail
  go_step3
  refine jump_to (by kernel_rfl) ?_
  conv in restOf _ _ => whnf
  go_wp2_with (first
    | ((with_reducible show wpList _ _ _ (Oper.mk none (Op.store _ (Operand.tmp 4) (Operand.tmp 143)) _ _ _ _ :: _) _ _); refine wpList_storeR hD5 rfl 25 (.tmp 4) (.tmp 143) (.int .i64 0) (.int .i64 0) (.int .i64 0) (.int .i32 0) (.int .i64 0) rfl (by kernel_rfl) (by kernel_rfl) (by simp [Value.oneCell']) (by kernel_rfl) ?_; intro w8 hB8 hz8; obtain ⟨z0, z1, z2, z3, z4⟩ := hz8))
  rw [jumpQ_ret]
  refine bodyPost_ret (v := .tuple #[.agg #[.int .i64 0, .int .i64 0, .int .i64 0, .int .i32 0, .int .i64 0], .int .i64 0, .int .i64 10]) (by simp [results, Tryd.results16, go_sem, z0, z1, z2, z3, z4]) rfl ⟨rfl, hB8⟩

set_option maxHeartbeats 1000000 in
theorem dec_6_0_ok (b o n c F m : Nat) (at_ x : Int) (op B : Int) (N : ByteArray) (w : World) (hT : TabIs 0 w) (h0 : 0 ≤ at_) (h1 : at_ < n) (hn : (n : Int) ≤ 140737488351232) (hnc : n ≤ c) (hb : b < w.heap.size)
    (hF : (at_ + 1).toNat = F) (hm : n - F = m) (hcF : (c = F) = False) (hmI : (n : Int) - (F : Int) = m) (hcap : F ≤ n) (hlen : 1 ≤ (m : Int))
    (hx : w.cell? ⟨b, o + at_.toNat, none⟩ = some (.int .u8 x)) (r1 : Int) (hr1 : 0 ≤ r1 ∧ r1 < 256) (hx1 : w.cell? ⟨b, o + F, none⟩ = some (.int .u8 r1)) (Hch : Hid (∀ w, TabIs 0 w → Calls Tryd.prog 46 #[.agg #[.int .i64 op, .int .i64 (r1 / 16), .int .i64 (r1 % 16), .int .i32 0, .int .i64 0]] w fun e w' => e = .returned (.int .i64 0) ∧ Below w.heap.size w w'))
    (Hfi : Hid (∀ w, TabIs 0 w → Calls Tryd.prog 44 #[.int .u8 x] w fun e w' => e = .returned (.tuple #[.int .i64 op, .agg #[.string N, .int .u8 B, .int .i64 6], .int .i64 0, .bool true]) ∧ Below w.heap.size w w')) :
    Calls Tryd.prog 16 #[.slice (some ⟨b, o, none⟩) n c, .int .i64 at_] w fun e w' => e = .returned (.tuple #[.agg #[.int .i64 op, .int .i64 (r1 / 16), .int .i64 (r1 % 16), .int .i32 0, .int .i64 0], .int .i64 2, .int .i64 0]) ∧ Below w.heap.size w w' := by
  have g0 : (at_ < 0) = False := by simp; omega
  have g1 : ((n : Int) < at_) = False := by simp; omega
  have g2 : (at_ = (n : Int)) = False := by simp; omega
  have g3 : (at_ == (n : Int)) = false := by simp; omega
  have hbb : ∀ k, (((w.alloc (.cells #[.int .i64 0, .int .i64 0, .int .i64 0, .int .i32 0, .int .i64 0] 25)).alloc (.cells #[.int .i64 0, .int .i64 0, .int .i64 0, .int .i32 0, .int .i64 0] 25)).alloc (.cells #[.string ⟨#[]⟩, .int .u8 0, .int .i64 0] 97)).cell? ⟨b, k, none⟩ = w.cell? ⟨b, k, none⟩ := by
    intro k
    rw [World.cell?_alloc_lt _ _ _ (by simp; omega), World.cell?_alloc_lt _ _ _ (by simp; omega), World.cell?_alloc_lt _ _ _ hb]
  obtain ⟨hr10, hr11⟩ := hr1
  go_enter Tryd.func16, Tryd.ntmps16
  go_wp2
  refine wp_scope_n (c' := decBody) 4 (by kernel_rfl) ?_
  go_wp2_with (first
    | (go_at_call 44; refine (Hfi.out _ (((hT.alloc _).alloc _).alloc _)).mono ?_; rintro e w2 ⟨rfl, hb2⟩; have hD2 := (DecW.init w).below hb2)
    | ((with_reducible show wpList _ _ _ (Oper.mk none (Op.store _ (Operand.tmp 37) (Operand.tmp 33)) _ _ _ _ :: _) _ _); refine wpList_storeI hD2 rfl 3 (.tmp 37) (.tmp 33) 0 .i64 op rfl (by kernel_rfl) (by kernel_rfl) (by simp) (by kernel_rfl) ?_; intro w3 hD3)
    | ((with_reducible show wpList _ _ _ (Oper.mk none (Op.store _ (Operand.tmp 8) (Operand.tmp 34)) _ _ _ _ :: _) _ _); refine wpList_storeX hD3 rfl 97 (.tmp 8) (.tmp 34) (.string N) (.int .u8 B) (.int .i64 6) rfl (by kernel_rfl) (by kernel_rfl) (by simp [Value.oneCell']) (by kernel_rfl) ?_; intro w4 hD4)
    | ((with_reducible show wpList _ _ _ (Oper.mk none (Op.store _ (Operand.tmp 38) (Operand.tmp 35)) _ _ _ _ :: _) _ _); refine wpList_storeI hD4 rfl 3 (.tmp 38) (.tmp 35) 4 .i64 0 rfl (by kernel_rfl) (by kernel_rfl) (by simp) (by kernel_rfl) ?_; intro w5 hD5; obtain ⟨i0, i1, i2, i3, i4⟩ := hD5.ins; obtain ⟨x1, x2⟩ := hD5.op; have r1c := (hD5.byte (k := o + F) hb).trans hx1))
  go_step3
  refine jump_to (by kernel_rfl) ?_
  conv in restOf _ _ => whnf
  go_wp2_with fail
  have hmN : 0 < m := by omega
  have hsh : IntKind.i64.wrap (r1 / 16) = r1 / 16 := wrap64_small (by omega) (by omega)
  have han : bits BinOp.and IntKind.u8 r1 15 = r1 % 16 := and15 hr10 hr11
  have haw : IntKind.i64.wrap (r1 % 16) = r1 % 16 := wrap64_small (by omega) (by omega)
  refine held_start (ops' := dec38) (l0 := #[false, false, false, false, false, false, false, false, false, false, false, false, false, false]) (S := fun w' => w'.cell? ⟨b, o + F, none⟩ = some (.int .u8 r1)) (by kernel_rfl) (by kernel_rfl) (by kernel_rfl) (by kernel_rfl) r1c (fun R hR => ?_)
  have hDd := hD5.drew
  (refine held_take (v := ?_) (d := some 104) 0 (by kernel_rfl) (by kernel_rfl) rfl ?_ ?_
   rotate_left
   · intro w hSw
     conv in opOf _ _ => whnf
     (try obtain ⟨hs1, hs2⟩ := hSw)
     go_simp
     try (with_reducible rfl)
   try simp only [Act.put, List.setIfInBounds_toArray, List.set_cons_zero, List.set_cons_succ])
  (refine held_take (v := ?_) (d := some 105) 1 (by kernel_rfl) (by kernel_rfl) rfl ?_ ?_
   rotate_left
   · intro w hSw
     conv in opOf _ _ => whnf
     (try obtain ⟨hs1, hs2⟩ := hSw)
     go_simp
     try (with_reducible rfl)
   try simp only [Act.put, List.setIfInBounds_toArray, List.set_cons_zero, List.set_cons_succ])
  (refine held_take (v := ?_) (d := some 106) 2 (by kernel_rfl) (by kernel_rfl) rfl ?_ ?_
   rotate_left
   · intro w hSw
     conv in opOf _ _ => whnf
     (try obtain ⟨hs1, hs2⟩ := hSw)
     go_simp
     try (with_reducible rfl)
   try simp only [Act.put, List.setIfInBounds_toArray, List.set_cons_zero, List.set_cons_succ])
  (refine held_take (v := ?_) (d := some 107) 3 (by kernel_rfl) (by kernel_rfl) rfl ?_ ?_
   rotate_left
   · intro w hSw
     conv in opOf _ _ => whnf
     (try obtain ⟨hs1, hs2⟩ := hSw)
     go_simp
     try (with_reducible rfl)
   try simp only [Act.put, List.setIfInBounds_toArray, List.set_cons_zero, List.set_cons_succ])
  (refine held_take (v := ?_) (d := some 108) 4 (by kernel_rfl) (by kernel_rfl) rfl ?_ ?_
   rotate_left
   · intro w hSw
     conv in opOf _ _ => whnf
     (try obtain ⟨hs1, hs2⟩ := hSw)
     go_simp
     try simp only [hsh]
     try (with_reducible rfl)
   try simp only [Act.put, List.setIfInBounds_toArray, List.set_cons_zero, List.set_cons_succ])
  (refine held_take (v := ?_) (d := some 109) 5 (by kernel_rfl) (by kernel_rfl) rfl ?_ ?_
   rotate_left
   · intro w hSw
     conv in opOf _ _ => whnf
     (try obtain ⟨hs1, hs2⟩ := hSw)
     go_simp
     try (with_reducible rfl)
   try simp only [Act.put, List.setIfInBounds_toArray, List.set_cons_zero, List.set_cons_succ])
  (refine held_take (v := ?_) (d := some 110) 6 (by kernel_rfl) (by kernel_rfl) rfl ?_ ?_
   rotate_left
   · intro w hSw
     conv in opOf _ _ => whnf
     (try obtain ⟨hs1, hs2⟩ := hSw)
     go_simp
     try (with_reducible rfl)
   try simp only [Act.put, List.setIfInBounds_toArray, List.set_cons_zero, List.set_cons_succ])
  (refine held_take (v := ?_) (d := some 114) 10 (by kernel_rfl) (by kernel_rfl) rfl ?_ ?_
   rotate_left
   · intro w hSw
     conv in opOf _ _ => whnf
     (try obtain ⟨hs1, hs2⟩ := hSw)
     go_simp
     try (with_reducible rfl)
   try simp only [Act.put, List.setIfInBounds_toArray, List.set_cons_zero, List.set_cons_succ])
  refine held_two 7 11 (by kernel_rfl) (by kernel_rfl) (by kernel_rfl) ?_ ?_
  · (refine held_run (v := ?_) (w' := ?_) (d := some 111) 7 (by kernel_rfl) (by kernel_rfl) rfl ?_ ?_
     rotate_left 2
     · intro hSw
       (try obtain ⟨hs1, hs2⟩ := hSw)
       conv in opOf _ _ => whnf
       go_simp
       first | done | (with_reducible rfl) | (constructor <;> with_reducible rfl)
     intro hS
     refine ⟨hS, ?_⟩
     try simp only [Act.put, List.setIfInBounds_toArray, List.set_cons_zero, List.set_cons_succ])
    (refine held_take (v := ?_) (d := some 112) 8 (by kernel_rfl) (by kernel_rfl) rfl ?_ ?_
     rotate_left
     · intro w hSw
       conv in opOf _ _ => whnf
       (try obtain ⟨hs1, hs2⟩ := hSw)
       go_simp
       try simp only [han]
       try (with_reducible rfl)
     try simp only [Act.put, List.setIfInBounds_toArray, List.set_cons_zero, List.set_cons_succ])
    (refine held_take (v := ?_) (d := some 113) 9 (by kernel_rfl) (by kernel_rfl) rfl ?_ ?_
     rotate_left
     · intro w hSw
       conv in opOf _ _ => whnf
       (try obtain ⟨hs1, hs2⟩ := hSw)
       go_simp
       try simp only [haw]
       try (with_reducible rfl)
     try simp only [Act.put, List.setIfInBounds_toArray, List.set_cons_zero, List.set_cons_succ])
    (refine held_one 11 (by kernel_rfl) (by kernel_rfl) (held_storeI hDd (d := none) 11 (by kernel_rfl) (by kernel_rfl) rfl 3 (.tmp 114) (.tmp 108) 1 .i64 (r1 / 16) (by kernel_rfl) (by kernel_rfl) (by kernel_rfl) (by simp) (by kernel_rfl) (fun wa hDa => ⟨(hDa.byte (k := o + F) hb).trans hx1, ?_⟩))
     try simp only [Act.put, List.setIfInBounds_toArray, List.set_cons_zero, List.set_cons_succ])
    (refine held_take (v := ?_) (d := some 115) 12 (by kernel_rfl) (by kernel_rfl) rfl ?_ ?_
     rotate_left
     · intro w hSw
       conv in opOf _ _ => whnf
       (try obtain ⟨hs1, hs2⟩ := hSw)
       go_simp
       try (with_reducible rfl)
     try simp only [Act.put, List.setIfInBounds_toArray, List.set_cons_zero, List.set_cons_succ])
    (refine held_one 13 (by kernel_rfl) (by kernel_rfl) (held_storeI hDa (d := none) 13 (by kernel_rfl) (by kernel_rfl) rfl 3 (.tmp 115) (.tmp 113) 2 .i64 (r1 % 16) (by kernel_rfl) (by kernel_rfl) (by kernel_rfl) (by simp) (by kernel_rfl) (fun w7 hD7 => ⟨(hD7.byte (k := o + F) hb).trans hx1, ?_⟩))
     try simp only [Act.put, List.setIfInBounds_toArray, List.set_cons_zero, List.set_cons_succ])
    refine held_done (by kernel_rfl) (fun hS => hR.out _ _ ?_)
    obtain ⟨u0, u1, u2, u3, u4⟩ := hD7.ins
    go_wp2_with fail
    go_step3
    refine jump_to (by kernel_rfl) ?_
    conv in restOf _ _ => whnf
    go_wp2_with (first
      | (go_at_call 46; refine (Hch.out _ (hD7.tab hT)).mono ?_; rintro e w9 ⟨rfl, hb9⟩; have hD9 := hD7.below hb9; obtain ⟨k0, k1, k2, k3, k4⟩ := hD9.ins)
      | ((with_reducible show wpList _ _ _ (Oper.mk none (Op.store _ (Operand.tmp 4) (Operand.tmp 140)) _ _ _ _ :: _) _ _); refine wpList_storeR hD9 rfl 25 (.tmp 4) (.tmp 140) (.int .i64 op) (.int .i64 (r1 / 16)) (.int .i64 (r1 % 16)) (.int .i32 0) (.int .i64 0) rfl (by kernel_rfl) (by kernel_rfl) (by simp [Value.oneCell']) (by kernel_rfl) ?_; intro w8 hB8 hz8; obtain ⟨z0, z1, z2, z3, z4⟩ := hz8))
    rw [jumpQ_ret]
    refine bodyPost_ret (v := .tuple #[.agg #[.int .i64 op, .int .i64 (r1 / 16), .int .i64 (r1 % 16), .int .i32 0, .int .i64 0], .int .i64 2, .int .i64 0]) (by simp [results, Tryd.results16, go_sem, z0, z1, z2, z3, z4]) rfl ⟨rfl, hB8⟩
  · (refine held_storeI hDd (d := none) 11 (by kernel_rfl) (by kernel_rfl) rfl 3 (.tmp 114) (.tmp 108) 1 .i64 (r1 / 16) (by kernel_rfl) (by kernel_rfl) (by kernel_rfl) (by simp) (by kernel_rfl) (fun wa hDa => ⟨(hDa.byte (k := o + F) hb).trans hx1, ?_⟩)
     try simp only [Act.put, List.setIfInBounds_toArray, List.set_cons_zero, List.set_cons_succ])
    (refine held_take (v := ?_) (d := some 111) 7 (by kernel_rfl) (by kernel_rfl) rfl ?_ ?_
     rotate_left
     · intro w hSw
       conv in opOf _ _ => whnf
       (try obtain ⟨hs1, hs2⟩ := hSw)
       go_simp
       try (with_reducible rfl)
     try simp only [Act.put, List.setIfInBounds_toArray, List.set_cons_zero, List.set_cons_succ])
    (refine held_take (v := ?_) (d := some 112) 8 (by kernel_rfl) (by kernel_rfl) rfl ?_ ?_
     rotate_left
     · intro w hSw
       conv in opOf _ _ => whnf
       (try obtain ⟨hs1, hs2⟩ := hSw)
       go_simp
       try simp only [han]
       try (with_reducible rfl)
     try simp only [Act.put, List.setIfInBounds_toArray, List.set_cons_zero, List.set_cons_succ])
    (refine held_take (v := ?_) (d := some 113) 9 (by kernel_rfl) (by kernel_rfl) rfl ?_ ?_
     rotate_left
     · intro w hSw
       conv in opOf _ _ => whnf
       (try obtain ⟨hs1, hs2⟩ := hSw)
       go_simp
       try simp only [haw]
       try (with_reducible rfl)
     try simp only [Act.put, List.setIfInBounds_toArray, List.set_cons_zero, List.set_cons_succ])
    (refine held_take (v := ?_) (d := some 115) 12 (by kernel_rfl) (by kernel_rfl) rfl ?_ ?_
     rotate_left
     · intro w hSw
       conv in opOf _ _ => whnf
       (try obtain ⟨hs1, hs2⟩ := hSw)
       go_simp
       try (with_reducible rfl)
     try simp only [Act.put, List.setIfInBounds_toArray, List.set_cons_zero, List.set_cons_succ])
    (refine held_one 13 (by kernel_rfl) (by kernel_rfl) (held_storeI hDa (d := none) 13 (by kernel_rfl) (by kernel_rfl) rfl 3 (.tmp 115) (.tmp 113) 2 .i64 (r1 % 16) (by kernel_rfl) (by kernel_rfl) (by kernel_rfl) (by simp) (by kernel_rfl) (fun w7 hD7 => ⟨(hD7.byte (k := o + F) hb).trans hx1, ?_⟩))
     try simp only [Act.put, List.setIfInBounds_toArray, List.set_cons_zero, List.set_cons_succ])
    refine held_done (by kernel_rfl) (fun hS => hR.out _ _ ?_)
    obtain ⟨u0, u1, u2, u3, u4⟩ := hD7.ins
    go_wp2_with fail
    go_step3
    refine jump_to (by kernel_rfl) ?_
    conv in restOf _ _ => whnf
    go_wp2_with (first
      | (go_at_call 46; refine (Hch.out _ (hD7.tab hT)).mono ?_; rintro e w9 ⟨rfl, hb9⟩; have hD9 := hD7.below hb9; obtain ⟨k0, k1, k2, k3, k4⟩ := hD9.ins)
      | ((with_reducible show wpList _ _ _ (Oper.mk none (Op.store _ (Operand.tmp 4) (Operand.tmp 140)) _ _ _ _ :: _) _ _); refine wpList_storeR hD9 rfl 25 (.tmp 4) (.tmp 140) (.int .i64 op) (.int .i64 (r1 / 16)) (.int .i64 (r1 % 16)) (.int .i32 0) (.int .i64 0) rfl (by kernel_rfl) (by kernel_rfl) (by simp [Value.oneCell']) (by kernel_rfl) ?_; intro w8 hB8 hz8; obtain ⟨z0, z1, z2, z3, z4⟩ := hz8))
    rw [jumpQ_ret]
    refine bodyPost_ret (v := .tuple #[.agg #[.int .i64 op, .int .i64 (r1 / 16), .int .i64 (r1 % 16), .int .i32 0, .int .i64 0], .int .i64 2, .int .i64 0]) (by simp [results, Tryd.results16, go_sem, z0, z1, z2, z3, z4]) rfl ⟨rfl, hB8⟩

set_option maxHeartbeats 1000000 in
theorem dec_6_0_bad (b o n c F m : Nat) (at_ x : Int) (op B : Int) (N : ByteArray) (w : World) (hT : TabIs 0 w) (h0 : 0 ≤ at_) (h1 : at_ < n) (hn : (n : Int) ≤ 140737488351232) (hnc : n ≤ c) (hb : b < w.heap.size)
    (hF : (at_ + 1).toNat = F) (hm : n - F = m) (hcF : (c = F) = False) (hmI : (n : Int) - (F : Int) = m) (hcap : F ≤ n) (hlen : 1 ≤ (m : Int))
    (hx : w.cell? ⟨b, o + at_.toNat, none⟩ = some (.int .u8 x)) (r1 : Int) (hr1 : 0 ≤ r1 ∧ r1 < 256) (hx1 : w.cell? ⟨b, o + F, none⟩ = some (.int .u8 r1)) (C : Int) (hC : (C == 0) = false) (Hch : Hid (∀ w, TabIs 0 w → Calls Tryd.prog 46 #[.agg #[.int .i64 op, .int .i64 (r1 / 16), .int .i64 (r1 % 16), .int .i32 0, .int .i64 0]] w fun e w' => e = .returned (.int .i64 C) ∧ Below w.heap.size w w'))
    (Hfi : Hid (∀ w, TabIs 0 w → Calls Tryd.prog 44 #[.int .u8 x] w fun e w' => e = .returned (.tuple #[.int .i64 op, .agg #[.string N, .int .u8 B, .int .i64 6], .int .i64 0, .bool true]) ∧ Below w.heap.size w w')) :
    Calls Tryd.prog 16 #[.slice (some ⟨b, o, none⟩) n c, .int .i64 at_] w fun e w' => e = .returned (.tuple #[.agg #[.int .i64 0, .int .i64 0, .int .i64 0, .int .i32 0, .int .i64 0], .int .i64 0, .int .i64 C]) ∧ Below w.heap.size w w' := by
  have g0 : (at_ < 0) = False := by simp; omega
  have g1 : ((n : Int) < at_) = False := by simp; omega
  have g2 : (at_ = (n : Int)) = False := by simp; omega
  have g3 : (at_ == (n : Int)) = false := by simp; omega
  have hbb : ∀ k, (((w.alloc (.cells #[.int .i64 0, .int .i64 0, .int .i64 0, .int .i32 0, .int .i64 0] 25)).alloc (.cells #[.int .i64 0, .int .i64 0, .int .i64 0, .int .i32 0, .int .i64 0] 25)).alloc (.cells #[.string ⟨#[]⟩, .int .u8 0, .int .i64 0] 97)).cell? ⟨b, k, none⟩ = w.cell? ⟨b, k, none⟩ := by
    intro k
    rw [World.cell?_alloc_lt _ _ _ (by simp; omega), World.cell?_alloc_lt _ _ _ (by simp; omega), World.cell?_alloc_lt _ _ _ hb]
  obtain ⟨hr10, hr11⟩ := hr1
  go_enter Tryd.func16, Tryd.ntmps16
  go_wp2
  refine wp_scope_n (c' := decBody) 4 (by kernel_rfl) ?_
  go_wp2_with (first
    | (go_at_call 44; refine (Hfi.out _ (((hT.alloc _).alloc _).alloc _)).mono ?_; rintro e w2 ⟨rfl, hb2⟩; have hD2 := (DecW.init w).below hb2)
    | ((with_reducible show wpList _ _ _ (Oper.mk none (Op.store _ (Operand.tmp 37) (Operand.tmp 33)) _ _ _ _ :: _) _ _); refine wpList_storeI hD2 rfl 3 (.tmp 37) (.tmp 33) 0 .i64 op rfl (by kernel_rfl) (by kernel_rfl) (by simp) (by kernel_rfl) ?_; intro w3 hD3)
    | ((with_reducible show wpList _ _ _ (Oper.mk none (Op.store _ (Operand.tmp 8) (Operand.tmp 34)) _ _ _ _ :: _) _ _); refine wpList_storeX hD3 rfl 97 (.tmp 8) (.tmp 34) (.string N) (.int .u8 B) (.int .i64 6) rfl (by kernel_rfl) (by kernel_rfl) (by simp [Value.oneCell']) (by kernel_rfl) ?_; intro w4 hD4)
    | ((with_reducible show wpList _ _ _ (Oper.mk none (Op.store _ (Operand.tmp 38) (Operand.tmp 35)) _ _ _ _ :: _) _ _); refine wpList_storeI hD4 rfl 3 (.tmp 38) (.tmp 35) 4 .i64 0 rfl (by kernel_rfl) (by kernel_rfl) (by simp) (by kernel_rfl) ?_; intro w5 hD5; obtain ⟨i0, i1, i2, i3, i4⟩ := hD5.ins; obtain ⟨x1, x2⟩ := hD5.op; have r1c := (hD5.byte (k := o + F) hb).trans hx1))
  go_step3
  refine jump_to (by kernel_rfl) ?_
  conv in restOf _ _ => whnf
  go_wp2_with fail
  have hmN : 0 < m := by omega
  have hsh : IntKind.i64.wrap (r1 / 16) = r1 / 16 := wrap64_small (by omega) (by omega)
  have han : bits BinOp.and IntKind.u8 r1 15 = r1 % 16 := and15 hr10 hr11
  have haw : IntKind.i64.wrap (r1 % 16) = r1 % 16 := wrap64_small (by omega) (by omega)
  refine held_start (ops' := dec38) (l0 := #[false, false, false, false, false, false, false, false, false, false, false, false, false, false]) (S := fun w' => w'.cell? ⟨b, o + F, none⟩ = some (.int .u8 r1)) (by kernel_rfl) (by kernel_rfl) (by kernel_rfl) (by kernel_rfl) r1c (fun R hR => ?_)
  have hDd := hD5.drew
  (refine held_take (v := ?_) (d := some 104) 0 (by kernel_rfl) (by kernel_rfl) rfl ?_ ?_
   rotate_left
   · intro w hSw
     conv in opOf _ _ => whnf
     (try obtain ⟨hs1, hs2⟩ := hSw)
     go_simp
     try (with_reducible rfl)
   try simp only [Act.put, List.setIfInBounds_toArray, List.set_cons_zero, List.set_cons_succ])
  (refine held_take (v := ?_) (d := some 105) 1 (by kernel_rfl) (by kernel_rfl) rfl ?_ ?_
   rotate_left
   · intro w hSw
     conv in opOf _ _ => whnf
     (try obtain ⟨hs1, hs2⟩ := hSw)
     go_simp
     try (with_reducible rfl)
   try simp only [Act.put, List.setIfInBounds_toArray, List.set_cons_zero, List.set_cons_succ])
  (refine held_take (v := ?_) (d := some 106) 2 (by kernel_rfl) (by kernel_rfl) rfl ?_ ?_
   rotate_left
   · intro w hSw
     conv in opOf _ _ => whnf
     (try obtain ⟨hs1, hs2⟩ := hSw)
     go_simp
     try (with_reducible rfl)
   try simp only [Act.put, List.setIfInBounds_toArray, List.set_cons_zero, List.set_cons_succ])
  (refine held_take (v := ?_) (d := some 107) 3 (by kernel_rfl) (by kernel_rfl) rfl ?_ ?_
   rotate_left
   · intro w hSw
     conv in opOf _ _ => whnf
     (try obtain ⟨hs1, hs2⟩ := hSw)
     go_simp
     try (with_reducible rfl)
   try simp only [Act.put, List.setIfInBounds_toArray, List.set_cons_zero, List.set_cons_succ])
  (refine held_take (v := ?_) (d := some 108) 4 (by kernel_rfl) (by kernel_rfl) rfl ?_ ?_
   rotate_left
   · intro w hSw
     conv in opOf _ _ => whnf
     (try obtain ⟨hs1, hs2⟩ := hSw)
     go_simp
     try simp only [hsh]
     try (with_reducible rfl)
   try simp only [Act.put, List.setIfInBounds_toArray, List.set_cons_zero, List.set_cons_succ])
  (refine held_take (v := ?_) (d := some 109) 5 (by kernel_rfl) (by kernel_rfl) rfl ?_ ?_
   rotate_left
   · intro w hSw
     conv in opOf _ _ => whnf
     (try obtain ⟨hs1, hs2⟩ := hSw)
     go_simp
     try (with_reducible rfl)
   try simp only [Act.put, List.setIfInBounds_toArray, List.set_cons_zero, List.set_cons_succ])
  (refine held_take (v := ?_) (d := some 110) 6 (by kernel_rfl) (by kernel_rfl) rfl ?_ ?_
   rotate_left
   · intro w hSw
     conv in opOf _ _ => whnf
     (try obtain ⟨hs1, hs2⟩ := hSw)
     go_simp
     try (with_reducible rfl)
   try simp only [Act.put, List.setIfInBounds_toArray, List.set_cons_zero, List.set_cons_succ])
  (refine held_take (v := ?_) (d := some 114) 10 (by kernel_rfl) (by kernel_rfl) rfl ?_ ?_
   rotate_left
   · intro w hSw
     conv in opOf _ _ => whnf
     (try obtain ⟨hs1, hs2⟩ := hSw)
     go_simp
     try (with_reducible rfl)
   try simp only [Act.put, List.setIfInBounds_toArray, List.set_cons_zero, List.set_cons_succ])
  refine held_two 7 11 (by kernel_rfl) (by kernel_rfl) (by kernel_rfl) ?_ ?_
  · (refine held_run (v := ?_) (w' := ?_) (d := some 111) 7 (by kernel_rfl) (by kernel_rfl) rfl ?_ ?_
     rotate_left 2
     · intro hSw
       (try obtain ⟨hs1, hs2⟩ := hSw)
       conv in opOf _ _ => whnf
       go_simp
       first | done | (with_reducible rfl) | (constructor <;> with_reducible rfl)
     intro hS
     refine ⟨hS, ?_⟩
     try simp only [Act.put, List.setIfInBounds_toArray, List.set_cons_zero, List.set_cons_succ])
    (refine held_take (v := ?_) (d := some 112) 8 (by kernel_rfl) (by kernel_rfl) rfl ?_ ?_
     rotate_left
     · intro w hSw
       conv in opOf _ _ => whnf
       (try obtain ⟨hs1, hs2⟩ := hSw)
       go_simp
       try simp only [han]
       try (with_reducible rfl)
     try simp only [Act.put, List.setIfInBounds_toArray, List.set_cons_zero, List.set_cons_succ])
    (refine held_take (v := ?_) (d := some 113) 9 (by kernel_rfl) (by kernel_rfl) rfl ?_ ?_
     rotate_left
     · intro w hSw
       conv in opOf _ _ => whnf
       (try obtain ⟨hs1, hs2⟩ := hSw)
       go_simp
       try simp only [haw]
       try (with_reducible rfl)
     try simp only [Act.put, List.setIfInBounds_toArray, List.set_cons_zero, List.set_cons_succ])
    (refine held_one 11 (by kernel_rfl) (by kernel_rfl) (held_storeI hDd (d := none) 11 (by kernel_rfl) (by kernel_rfl) rfl 3 (.tmp 114) (.tmp 108) 1 .i64 (r1 / 16) (by kernel_rfl) (by kernel_rfl) (by kernel_rfl) (by simp) (by kernel_rfl) (fun wa hDa => ⟨(hDa.byte (k := o + F) hb).trans hx1, ?_⟩))
     try simp only [Act.put, List.setIfInBounds_toArray, List.set_cons_zero, List.set_cons_succ])
    (refine held_take (v := ?_) (d := some 115) 12 (by kernel_rfl) (by kernel_rfl) rfl ?_ ?_
     rotate_left
     · intro w hSw
       conv in opOf _ _ => whnf
       (try obtain ⟨hs1, hs2⟩ := hSw)
       go_simp
       try (with_reducible rfl)
     try simp only [Act.put, List.setIfInBounds_toArray, List.set_cons_zero, List.set_cons_succ])
    (refine held_one 13 (by kernel_rfl) (by kernel_rfl) (held_storeI hDa (d := none) 13 (by kernel_rfl) (by kernel_rfl) rfl 3 (.tmp 115) (.tmp 113) 2 .i64 (r1 % 16) (by kernel_rfl) (by kernel_rfl) (by kernel_rfl) (by simp) (by kernel_rfl) (fun w7 hD7 => ⟨(hD7.byte (k := o + F) hb).trans hx1, ?_⟩))
     try simp only [Act.put, List.setIfInBounds_toArray, List.set_cons_zero, List.set_cons_succ])
    refine held_done (by kernel_rfl) (fun hS => hR.out _ _ ?_)
    obtain ⟨u0, u1, u2, u3, u4⟩ := hD7.ins
    go_wp2_with fail
    go_step3
    refine jump_to (by kernel_rfl) ?_
    conv in restOf _ _ => whnf
    go_wp2_with (first
      | (go_at_call 46; refine (Hch.out _ (hD7.tab hT)).mono ?_; rintro e w9 ⟨rfl, hb9⟩; have hD9 := hD7.below hb9; obtain ⟨k0, k1, k2, k3, k4⟩ := hD9.ins))
    go_step3
    go_wp2_with (first
      | ((with_reducible show wpList _ _ _ (Oper.mk none (Op.store _ (Operand.tmp 4) (Operand.tmp 143)) _ _ _ _ :: _) _ _); refine wpList_storeR hD9 rfl 25 (.tmp 4) (.tmp 143) (.int .i64 0) (.int .i64 0) (.int .i64 0) (.int .i32 0) (.int .i64 0) rfl (by kernel_rfl) (by kernel_rfl) (by simp [Value.oneCell']) (by kernel_rfl) ?_; intro w8 hB8 hz8; obtain ⟨z0, z1, z2, z3, z4⟩ := hz8))
    rw [jumpQ_ret]
    refine bodyPost_ret (v := .tuple #[.agg #[.int .i64 0, .int .i64 0, .int .i64 0, .int .i32 0, .int .i64 0], .int .i64 0, .int .i64 C]) (by simp [results, Tryd.results16, go_sem, z0, z1, z2, z3, z4]) rfl ⟨rfl, hB8⟩
  · (refine held_storeI hDd (d := none) 11 (by kernel_rfl) (by kernel_rfl) rfl 3 (.tmp 114) (.tmp 108) 1 .i64 (r1 / 16) (by kernel_rfl) (by kernel_rfl) (by kernel_rfl) (by simp) (by kernel_rfl) (fun wa hDa => ⟨(hDa.byte (k := o + F) hb).trans hx1, ?_⟩)
     try simp only [Act.put, List.setIfInBounds_toArray, List.set_cons_zero, List.set_cons_succ])
    (refine held_take (v := ?_) (d := some 111) 7 (by kernel_rfl) (by kernel_rfl) rfl ?_ ?_
     rotate_left
     · intro w hSw
       conv in opOf _ _ => whnf
       (try obtain ⟨hs1, hs2⟩ := hSw)
       go_simp
       try (with_reducible rfl)
     try simp only [Act.put, List.setIfInBounds_toArray, List.set_cons_zero, List.set_cons_succ])
    (refine held_take (v := ?_) (d := some 112) 8 (by kernel_rfl) (by kernel_rfl) rfl ?_ ?_
     rotate_left
     · intro w hSw
       conv in opOf _ _ => whnf
       (try obtain ⟨hs1, hs2⟩ := hSw)
       go_simp
       try simp only [han]
       try (with_reducible rfl)
     try simp only [Act.put, List.setIfInBounds_toArray, List.set_cons_zero, List.set_cons_succ])
    (refine held_take (v := ?_) (d := some 113) 9 (by kernel_rfl) (by kernel_rfl) rfl ?_ ?_
     rotate_left
     · intro w hSw
       conv in opOf _ _ => whnf
       (try obtain ⟨hs1, hs2⟩ := hSw)
       go_simp
       try simp only [haw]
       try (with_reducible rfl)
     try simp only [Act.put, List.setIfInBounds_toArray, List.set_cons_zero, List.set_cons_succ])
    (refine held_take (v := ?_) (d := some 115) 12 (by kernel_rfl) (by kernel_rfl) rfl ?_ ?_
     rotate_left
     · intro w hSw
       conv in opOf _ _ => whnf
       (try obtain ⟨hs1, hs2⟩ := hSw)
       go_simp
       try (with_reducible rfl)
     try simp only [Act.put, List.setIfInBounds_toArray, List.set_cons_zero, List.set_cons_succ])
    (refine held_one 13 (by kernel_rfl) (by kernel_rfl) (held_storeI hDa (d := none) 13 (by kernel_rfl) (by kernel_rfl) rfl 3 (.tmp 115) (.tmp 113) 2 .i64 (r1 % 16) (by kernel_rfl) (by kernel_rfl) (by kernel_rfl) (by simp) (by kernel_rfl) (fun w7 hD7 => ⟨(hD7.byte (k := o + F) hb).trans hx1, ?_⟩))
     try simp only [Act.put, List.setIfInBounds_toArray, List.set_cons_zero, List.set_cons_succ])
    refine held_done (by kernel_rfl) (fun hS => hR.out _ _ ?_)
    obtain ⟨u0, u1, u2, u3, u4⟩ := hD7.ins
    go_wp2_with fail
    go_step3
    refine jump_to (by kernel_rfl) ?_
    conv in restOf _ _ => whnf
    go_wp2_with (first
      | (go_at_call 46; refine (Hch.out _ (hD7.tab hT)).mono ?_; rintro e w9 ⟨rfl, hb9⟩; have hD9 := hD7.below hb9; obtain ⟨k0, k1, k2, k3, k4⟩ := hD9.ins))
    go_step3
    go_wp2_with (first
      | ((with_reducible show wpList _ _ _ (Oper.mk none (Op.store _ (Operand.tmp 4) (Operand.tmp 143)) _ _ _ _ :: _) _ _); refine wpList_storeR hD9 rfl 25 (.tmp 4) (.tmp 143) (.int .i64 0) (.int .i64 0) (.int .i64 0) (.int .i32 0) (.int .i64 0) rfl (by kernel_rfl) (by kernel_rfl) (by simp [Value.oneCell']) (by kernel_rfl) ?_; intro w8 hB8 hz8; obtain ⟨z0, z1, z2, z3, z4⟩ := hz8))
    rw [jumpQ_ret]
    refine bodyPost_ret (v := .tuple #[.agg #[.int .i64 0, .int .i64 0, .int .i64 0, .int .i32 0, .int .i64 0], .int .i64 0, .int .i64 C]) (by simp [results, Tryd.results16, go_sem, z0, z1, z2, z3, z4]) rfl ⟨rfl, hB8⟩

set_option maxHeartbeats 1000000 in
theorem dec_6_0_short (b o n c F m : Nat) (at_ x : Int) (op B : Int) (N : ByteArray) (w : World) (hT : TabIs 0 w) (h0 : 0 ≤ at_) (h1 : at_ < n) (hn : (n : Int) ≤ 140737488351232) (hnc : n ≤ c) (hb : b < w.heap.size)
    (hF : (at_ + 1).toNat = F) (hm : n - F = m) (hcF : (c = F) = False) (hmI : (n : Int) - (F : Int) = m) (hcap : F ≤ n) (hlen : (m : Int) < 1)
    (hx : w.cell? ⟨b, o + at_.toNat, none⟩ = some (.int .u8 x)) 
    (Hfi : Hid (∀ w, TabIs 0 w → Calls Tryd.prog 44 #[.int .u8 x] w fun e w' => e = .returned (.tuple #[.int .i64 op, .agg #[.string N, .int .u8 B, .int .i64 6], .int .i64 0, .bool true]) ∧ Below w.heap.size w w')) :
    Calls Tryd.prog 16 #[.slice (some ⟨b, o, none⟩) n c, .int .i64 at_] w fun e w' => e = .returned (.tuple #[.agg #[.int .i64 0, .int .i64 0, .int .i64 0, .int .i32 0, .int .i64 0], .int .i64 0, .int .i64 10]) ∧ Below w.heap.size w w' := by
  have g0 : (at_ < 0) = False := by simp; omega
  have g1 : ((n : Int) < at_) = False := by simp; omega
  have g2 : (at_ = (n : Int)) = False := by simp; omega
  have g3 : (at_ == (n : Int)) = false := by simp; omega
  have hbb : ∀ k, (((w.alloc (.cells #[.int .i64 0, .int .i64 0, .int .i64 0, .int .i32 0, .int .i64 0] 25)).alloc (.cells #[.int .i64 0, .int .i64 0, .int .i64 0, .int .i32 0, .int .i64 0] 25)).alloc (.cells #[.string ⟨#[]⟩, .int .u8 0, .int .i64 0] 97)).cell? ⟨b, k, none⟩ = w.cell? ⟨b, k, none⟩ := by
    intro k
    rw [World.cell?_alloc_lt _ _ _ (by simp; omega), World.cell?_alloc_lt _ _ _ (by simp; omega), World.cell?_alloc_lt _ _ _ hb]
  go_enter Tryd.func16, Tryd.ntmps16
  go_wp2
  refine wp_scope_n (c' := decBody) 4 (by kernel_rfl) ?_
  go_wp2_with (first
    | (go_at_call 44; refine (Hfi.out _ (((hT.alloc _).alloc _).alloc _)).mono ?_; rintro e w2 ⟨rfl, hb2⟩; have hD2 := (DecW.init w).below hb2)
    | ((with_reducible show wpList _ _ _ (Oper.mk none (Op.store _ (Operand.tmp 37) (Operand.tmp 33)) _ _ _ _ :: _) _ _); refine wpList_storeI hD2 rfl 3 (.tmp 37) (.tmp 33) 0 .i64 op rfl (by kernel_rfl) (by kernel_rfl) (by simp) (by kernel_rfl) ?_; intro w3 hD3)
    | ((with_reducible show wpList _ _ _ (Oper.mk none (Op.store _ (Operand.tmp 8) (Operand.tmp 34)) _ _ _ _ :: _) _ _); refine wpList_storeX hD3 rfl 97 (.tmp 8) (.tmp 34) (.string N) (.int .u8 B) (.int .i64 6) rfl (by kernel_rfl) (by kernel_rfl) (by simp [Value.oneCell']) (by kernel_rfl) ?_; intro w4 hD4)
    | ((with_reducible show wpList _ _ _ (Oper.mk none (Op.store _ (Operand.tmp 38) (Operand.tmp 35)) _ _ _ _ :: _) _ _); refine wpList_storeI hD4 rfl 3 (.tmp 38) (.tmp 35) 4 .i64 0 rfl (by kernel_rfl) (by kernel_rfl) (by simp) (by kernel_rfl) ?_; intro w5 hD5; obtain ⟨i0, i1, i2, i3, i4⟩ := hD5.ins; obtain ⟨x1, x2⟩ := hD5.op))
  go_step3
  refine jump_to (by kernel_rfl) ?_
  conv in restOf _ _ => whnf
  go_wp2_with fail
  go_step3
  refine jump_to (by kernel_rfl) ?_
  conv in restOf _ _ => whnf
  go_wp2_with (first
    | ((with_reducible show wpList _ _ _ (Oper.mk none (Op.store _ (Operand.tmp 4) (Operand.tmp 143)) _ _ _ _ :: _) _ _); refine wpList_storeR hD5 rfl 25 (.tmp 4) (.tmp 143) (.int .i64 0) (.int .i64 0) (.int .i64 0) (.int .i32 0) (.int .i64 0) rfl (by kernel_rfl) (by kernel_rfl) (by simp [Value.oneCell']) (by kernel_rfl) ?_; intro w8 hB8 hz8; obtain ⟨z0, z1, z2, z3, z4⟩ := hz8))
  rw [jumpQ_ret]
  refine bodyPost_ret (v := .tuple #[.agg #[.int .i64 0, .int .i64 0, .int .i64 0, .int .i32 0, .int .i64 0], .int .i64 0, .int .i64 10]) (by simp [results, Tryd.results16, go_sem, z0, z1, z2, z3, z4]) rfl ⟨rfl, hB8⟩

set_option maxHeartbeats 1000000 in
theorem dec_6_0_shortc (b o n c F m : Nat) (at_ x : Int) (op B : Int) (N : ByteArray) (w : World) (hT : TabIs 0 w) (h0 : 0 ≤ at_) (h1 : at_ < n) (hn : (n : Int) ≤ 140737488351232) (hnc : n ≤ c) (hb : b < w.heap.size)
    (hF : (at_ + 1).toNat = F) (hm : n - F = m) (hcF : (c = F) = True) (hm0 : m = 0) (hmI : (n : Int) - (F : Int) = m) (hcap : F ≤ n) (hlen : (m : Int) < 1)
    (hx : w.cell? ⟨b, o + at_.toNat, none⟩ = some (.int .u8 x)) 
    (Hfi : Hid (∀ w, TabIs 0 w → Calls Tryd.prog 44 #[.int .u8 x] w fun e w' => e = .returned (.tuple #[.int .i64 op, .agg #[.string N, .int .u8 B, .int .i64 6], .int .i64 0, .bool true]) ∧ Below w.heap.size w w')) :
    Calls Tryd.prog 16 #[.slice (some ⟨b, o, none⟩) n c, .int .i64 at_] w fun e w' => e = .returned (.tuple #[.agg #[.int .i64 0, .int .i64 0, .int .i64 0, .int .i32 0, .int .i64 0], .int .i64 0, .int .i64 10]) ∧ Below w.heap.size w w' := by
  have g0 : (at_ < 0) = False := by simp; omega
  have g1 : ((n : Int) < at_) = False := by simp; omega
  have g2 : (at_ = (n : Int)) = False := by simp; omega
  have g3 : (at_ == (n : Int)) = false := by simp; omega
  have hbb : ∀ k, (((w.alloc (.cells #[.int .i64 0, .int .i64 0, .int .i64 0, .int .i32 0, .int .i64 0] 25)).alloc (.cells #[.int .i64 0, .int .i64 0, .int .i64 0, .int .i32 0, .int .i64 0] 25)).alloc (.cells #[.string ⟨#[]⟩, .int .u8 0, .int .i64 0] 97)).cell? ⟨b, k, none⟩ = w.cell? ⟨b, k, none⟩ := by
    intro k
    rw [World.cell?_alloc_lt _ _ _ (by simp; omega), World.cell?_alloc_lt _ _ _ (by simp; omega), World.cell?_alloc_lt _ _ _ hb]
  go_enter Tryd.func16, Tryd.ntmps16
  go_wp2
  refine wp_scope_n (c' := decBody) 4 (by kernel_rfl) ?_
  go_wp2_with (first
    | (go_at_call 44; refine (Hfi.out _ (((hT.alloc _).alloc _).alloc _)).mono ?_; rintro e w2 ⟨rfl, hb2⟩; have hD2 := (DecW.init w).below hb2)
    | ((with_reducible show wpList _ _ _ (Oper.mk none (Op.store _ (Operand.tmp 37) (Operand.tmp 33)) _ _ _ _ :: _) _ _); refine wpList_storeI hD2 rfl 3 (.tmp 37) (.tmp 33) 0 .i64 op rfl (by kernel_rfl) (by kernel_rfl) (by simp) (by kernel_rfl) ?_; intro w3 hD3)
    | ((with_reducible show wpList _ _ _ (Oper.mk none (Op.store _ (Operand.tmp 8) (Operand.tmp 34)) _ _ _ _ :: _) _ _); refine wpList_storeX hD3 rfl 97 (.tmp 8) (.tmp 34) (.string N) (.int .u8 B) (.int .i64 6) rfl (by kernel_rfl) (by kernel_rfl) (by simp [Value.oneCell']) (by kernel_rfl) ?_; intro w4 hD4)
    | ((with_reducible show wpList _ _ _ (Oper.mk none (Op.store _ (Operand.tmp 38) (Operand.tmp 35)) _ _ _ _ :: _) _ _); refine wpList_storeI hD4 rfl 3 (.tmp 38) (.tmp 35) 4 .i64 0 rfl (by kernel_rfl) (by kernel_rfl) (by simp) (by kernel_rfl) ?_; intro w5 hD5; obtain ⟨i0, i1, i2, i3, i4⟩ := hD5.ins; obtain ⟨x1, x2⟩ := hD5.op))
  go_step3
  refine jump_to (by kernel_rfl) ?_
  conv in restOf _ _ => whnf
  go_wp2_with fail
  go_step3
  refine jump_to (by kernel_rfl) ?_
  conv in restOf _ _ => whnf
  go_wp2_with (first
    | ((with_reducible show wpList _ _ _ (Oper.mk none (Op.store _ (Operand.tmp 4) (Operand.tmp 143)) _ _ _ _ :: _) _ _); refine wpList_storeR hD5 rfl 25 (.tmp 4) (.tmp 143) (.int .i64 0) (.int .i64 0) (.int .i64 0) (.int .i32 0) (.int .i64 0) rfl (by kernel_rfl) (by kernel_rfl) (by simp [Value.oneCell']) (by kernel_rfl) ?_; intro w8 hB8 hz8; obtain ⟨z0, z1, z2, z3, z4⟩ := hz8))
  rw [jumpQ_ret]
  refine bodyPost_ret (v := .tuple #[.agg #[.int .i64 0, .int .i64 0, .int .i64 0, .int .i32 0, .int .i64 0], .int .i64 0, .int .i64 10]) (by simp [results, Tryd.results16, go_sem, z0, z1, z2, z3, z4]) rfl ⟨rfl, hB8⟩
end Go.Proofs.YthcjnkakfpmpbaaDoor
