/- Law DecodeBack: what an instruction is encoded to is decoded to it, wherever it stands; what is decoded is encoded to just the bytes that it took. Conditions: slices of at most 1048576 bytes. -/
import Derived.Test.YthcjnkakfpmpbaaDoorP12
import Derived.Test.YthcjnkakfpmpbaaDoorD12
namespace Go.Proofs.YthcjnkakfpmpbaaDoor.decodeBack
open Go.RowKit
set_option linter.unusedVariables false
set_option linter.unusedSimpArgs false

noncomputable def backOps : Array Oper := regOf Tryd.f6.body 11
theorem one_block {w w1 : World} {t : TypeId} {a b c d e : Value} (hb : Below (w.alloc (.cells #[a, b, c, d, e] t)).heap.size (w.alloc (.cells #[a, b, c, d, e] t)) w1) :
    Blk w1 w.heap.size t [a, b, c, d, e] ∧ w.heap.size < w1.heap.size ∧ Below w.heap.size w w1 := by
  have hz := hb.size
  simp at hz
  exact ⟨(Blk.new w t [a, b, c, d, e]).below hb (by simp), by omega, ((Below.refl _ _).alloc (Nat.le_refl _) _).trans (hb.mono (by simp))⟩
theorem ins_cells {W : World} {g : Nat} {t : TypeId} {a b c d e : Value} (h : Blk W g t [a, b, c, d, e]) : W.cell? ⟨g, 0, none⟩ = some a ∧ W.cell? ⟨g, 1, none⟩ = some b ∧ W.cell? ⟨g, 2, none⟩ = some c ∧ W.cell? ⟨g, 3, none⟩ = some d ∧ W.cell? ⟨g, 4, none⟩ = some e :=
  ⟨h.cell 0, h.cell 1, h.cell 2, h.cell 3, h.cell 4⟩
theorem slB {w w' : World} {A : Option Addr} {n : Nat} {cs : List Value} (hs : Sl w w.heap.size 1 A n cs) (hb : Below w.heap.size w w') : Sl w' w'.heap.size 1 A n cs := (hs.below hb).more hb.size
theorem slA {w w' : World} {o : Obj} {A : Option Addr} {n : Nat} {cs : List Value} (hs : Sl w w.heap.size 1 A n cs) (hb : Below (w.alloc o).heap.size (w.alloc o) w') : Sl w' w'.heap.size 1 A n cs :=
  slB ((hs.alloc (Nat.le_refl _) o).more (by simp)) hb
theorem back_str {w : World} {A : Option Addr} {K : Nat} {L : List UInt8} (hs : Sl w w.heap.size 1 A K (bs L)) (hA : A = none → K = 0) (W : World) (hb : Below w.heap.size w W) (c : Nat) :
    (convert 22 9 (.slice A K c)).run Tryd.prog W = .ok (.string ⟨L.toArray⟩) W :=
  run_str _ _ 5 Tryd.underlying22 Tryd.underlying5 Tryd.underlying9 (hs.below hb) hA

set_option maxRecDepth 20000 in
set_option maxHeartbeats 2000000 in
theorem ok_ok (op a b n f : Int) (A1 A2 : Option Addr) (n1 c1 n2 c2 : Nat) (l1 l2 : List UInt8) (w : World) (hT : TabIs 0 w) (s1 : Sl w w.heap.size 1 A1 n1 (bs l1)) (s2 : Sl w w.heap.size 1 A2 n2 (bs l2)) (hc1 : n1 ≤ c1) (hc2 : n2 ≤ c2) (b1 : n1 ≤ 1048576) (b2 : n2 ≤ 1048576)
    (e : List UInt8) (he : e.length ≤ 6) (Hi : Hid (∀ w, TabIs 0 w → Calls Tryd.prog 22 #[.agg #[.int .i64 op, .int .i64 a, .int .i64 b, .int .i32 n, .int .i64 f]] w (GivesE w e)))
    (Hd1 : Hid (∀ A nn cc w, TabIs 0 w → Sl w w.heap.size 1 A nn (bs (l1 ++ (e ++ l2))) → nn ≤ cc → (nn : Int) ≤ 140737488351232 → Calls Tryd.prog 16 #[.slice A nn cc, .int .i64 n1] w fun en w' => en = .returned (.tuple #[.agg #[.int .i64 op, .int .i64 a, .int .i64 b, .int .i32 n, .int .i64 f], .int .i64 e.length, .int .i64 0]) ∧ Below w.heap.size w w'))
    (F K : Nat) (jo ja jb jn jf : Int) (hF : F + K ≤ n2) (hK1 : 1 ≤ K) (Hd2 : Hid (∀ w, TabIs 0 w → Sl w w.heap.size 1 A2 n2 (bs l2) → Calls Tryd.prog 16 #[.slice A2 n2 c2, .int .i64 F] w fun en w' => en = .returned (.tuple #[.agg #[.int .i64 jo, .int .i64 ja, .int .i64 jb, .int .i32 jn, .int .i64 jf], .int .i64 K, .int .i64 0]) ∧ Below w.heap.size w w'))
    (L : List UInt8) (hL : L.length = K) (hLe : Hid (L = (l2.drop F).take K)) (Hj : Hid (∀ w, TabIs 0 w → Calls Tryd.prog 22 #[.agg #[.int .i64 jo, .int .i64 ja, .int .i64 jb, .int .i32 jn, .int .i64 jf]] w (GivesE w L))) :
    Calls Tryd.prog 6 #[.agg #[.int .i64 op, .int .i64 a, .int .i64 b, .int .i32 n, .int .i64 f], .slice A1 n1 c1, .slice A2 n2 c2, .int .i64 (F : Int)] w fun en w' => en = .returned (.bool true) ∧ Below w.heap.size w w' := by
  obtain ⟨i0, hi0, hk0, hk1, hk2⟩ := info_parts u8_info
  have S1 := Lib.hid s1
  have S2 := Lib.hid s2
  clear s1 s2
  have HE := Lib.hid he
  clear he
  go_enter Tryd.func6, Tryd.ntmps6
  go_wp2_with (first
    | (go_at_call 22; (with_reducible refine (Hi.out _ (hT.alloc _)).mono ?_); rintro en w2 ⟨Ae, ne, ce, rfl, hce, hse, hb2⟩; have hT2 := (hT.alloc _).grow hb2; obtain ⟨hk2b, hz2, hB2⟩ := one_block hb2; have s12 := slA S1.out hb2; have s22 := slA S2.out hb2; have hle := hse.len; rw [bs_length, Nat.mul_one] at hle; have he6 := HE.out; rw [hle] at he6)
    | ((with_reducible show wpList _ _ _ (Oper.mk _ (Op.call { callee := _, args := #[Operand.tmp 27, Operand.tmp 28], argTypes := _ }) _ _ _ _ :: _) _ _)
       refine wpList_app _ rfl (.tmp 27) (.tmp 28) _ rfl w2.heap.size 5 i0 _ 1 1 Tryd.underlying22 hi0 hk0 hk1 hk2 rfl (by omega) (.slice (some ⟨w2.heap.size, 0, none⟩) 0 0) 0 [] (by kernel_rfl) (own_empty w2 5 1) w2.heap.size A1 n1 c1 (bs l1) (by kernel_rfl) (s12.alloc (Nat.le_refl _) _) (bs_one _) (by unfold maxLen; omega) (by omega) (by simp) n1 (by omega) (bs l1) (by simp) ?_
       intro A3 c3 w3 hc3 hown3 hg3 _
       have hb3 : Below w2.heap.size w2 w3 := below_app ((Below.refl _ _).alloc (Nat.le_refl _) _) (own_empty w2 5 1) hg3 (by simp))
    | ((with_reducible show wpList _ _ _ (Oper.mk _ (Op.call { callee := _, args := #[Operand.tmp 29, Operand.tmp 30], argTypes := _ }) _ _ _ _ :: _) _ _)
       refine wpList_app _ rfl (.tmp 29) (.tmp 30) _ rfl w2.heap.size 5 i0 _ 1 1 Tryd.underlying22 hi0 hk0 hk1 hk2 rfl (by omega) (.slice A3 n1 c3) n1 (bs l1) (by kernel_rfl) hown3 w2.heap.size Ae ne ce (bs e) (by kernel_rfl) (hse.below hb3) (bs_one _) (by unfold maxLen; omega) (by omega) hb3.size (n1 + ne) rfl (bs (l1 ++ e)) (by rw [bs_append]) ?_
       intro A4 c4 w4 hc4 hown4 hg4 _
       have hb4 : Below w2.heap.size w2 w4 := below_app hb3 hown3 hg4 hb3.size)
    | ((with_reducible show wpList _ _ _ (Oper.mk _ (Op.call { callee := _, args := #[Operand.tmp 31, Operand.tmp 32], argTypes := _ }) _ _ _ _ :: _) _ _)
       refine wpList_app _ rfl (.tmp 31) (.tmp 32) _ rfl w2.heap.size 5 i0 _ 1 1 Tryd.underlying22 hi0 hk0 hk1 hk2 rfl (by omega) (.slice A4 (n1 + ne) c4) (n1 + ne) (bs (l1 ++ e)) (by kernel_rfl) hown4 w2.heap.size A2 n2 c2 (bs l2) (by kernel_rfl) (s22.below hb4) (bs_one _) (by unfold maxLen; omega) (by omega) hb4.size (n1 + ne + n2) rfl (bs (l1 ++ (e ++ l2))) (by rw [← List.append_assoc, bs_append _ l2]) ?_
       intro A5 c5 w5 hc5 hown5 hg5 _
       have hb5 : Below w2.heap.size w2 w5 := below_app hb4 hown4 hg5 hb4.size)
    | (go_at_call 16; (with_reducible refine (Hd1.out A5 (n1 + ne + n2) c5 w5 (hT2.grow hb5) (Sl.of_own hown5) hc5 (by omega)).mono ?_); rw [hle]; rintro en w6 ⟨rfl, hb6⟩; have hb26 : Below w2.heap.size w2 w6 := hb5.trans (hb6.mono hb5.size); have hz6 := hb26.size; have hT6 := hT2.grow hb26; obtain ⟨a0, a1, a2, a3, a4⟩ := ins_cells (hk2b.below hb26 hz2); have hz6' : w.heap.size < w6.heap.size := (by omega); have s26 := slB s22 hb26; have hB6 : Below w.heap.size w w6 := hB2.trans (hb26.mono (by omega)))
    | (go_at_call 16; refine (Hd2.out _ (hT6.alloc _) ((s26.alloc (Nat.le_refl _) _).more (by simp))).mono ?_; rintro en w7 ⟨rfl, hb7⟩; have hT7 := (hT6.alloc _).grow hb7; have s27 := slA s26 hb7; have hB7 : Below w.heap.size w w7 := (hB6.alloc hB6.size _).trans (hb7.mono (by simp; omega)); have hz7 := hB7.size)
    | (go_at_call 22; (with_reducible refine (Hj.out _ (hT7.alloc _)).mono ?_); rintro en w8 ⟨A8, n8, c8, rfl, hc8, hs8, hb8⟩; have hT8 := (hT7.alloc _).grow hb8; have s28 := slA s27 hb8; have hB8 : Below w.heap.size w w8 := (hB7.alloc hB7.size _).trans (hb8.mono (by simp; omega)); have hl8 := hs8.len; rw [bs_length, Nat.mul_one, hL] at hl8))
  subst hl8
  have hl2 : l2.length = n2 := by have := S2.out.len; rw [bs_length] at this; omega
  obtain ⟨g2, o2, rfl, hg2, _⟩ := s28.at_ (by omega)
  obtain ⟨g8, o8, rfl, hg8, _⟩ := hs8.at_ (by omega)
  have hstr1 := fun W (hW : Below w8.heap.size w8 W) c => back_str hs8 (fun h => by cases h) W hW c
  have smid := s28.mid (i := F) (m := K) (by omega) hg2
  rw [← hLe.out] at smid
  have hstr2 := fun W (hW : Below w8.heap.size w8 W) c => back_str smid (fun h => by cases h) W hW c
  have q1 : (F : Int) + K ≤ n2 := by omega
  have q2 : ((F : Int) + (K : Int)).toNat = F + K := by omega
  have q3 : (c2 = F) = False := by simp; omega
  have q4 : F + K - F = K := by omega
  have q5 : F + K ≤ c2 := by omega
  have q6 : (F : Int) + K ≤ c2 := by omega
  have q7 : (0 : Int) ≤ (F : Int) + K := by omega
  have hwr : IntKind.i64.wrap ((F : Int) + (K : Int)) = (F : Int) + K := by simp [IntKind.wrap, IntKind.bits, IntKind.signed]; omega
  refine held_start (ops' := backOps) (l0 := #[false, false, false, false, false, false, false, false, false, false, false, false, false, false, false, false, false, false, false, false, false, false, false, false, false, false, false, false, false, false, false, false]) (S := (fun w' => Below w8.heap.size w8 w')) (by kernel_rfl) (by kernel_rfl) (by kernel_rfl) (by kernel_rfl) ((Below.refl _ _).drew) (fun R hR => ?_)
  (refine held_take (v := ?_) (d := some 70) 0 (by kernel_rfl) (by kernel_rfl) rfl ?_ ?_
   rotate_left
   · intro w hSw
     conv in opOf _ _ => whnf
     (try dsimp only at hSw)
     go_simp
     try (with_reducible rfl)
   try simp only [Act.put, List.setIfInBounds_toArray, List.set_cons_zero, List.set_cons_succ])
  (refine held_take (v := ?_) (d := some 71) 1 (by kernel_rfl) (by kernel_rfl) rfl ?_ ?_
   rotate_left
   · intro w hSw
     conv in opOf _ _ => whnf
     (try dsimp only at hSw)
     go_simp
     try (with_reducible rfl)
   try simp only [Act.put, List.setIfInBounds_toArray, List.set_cons_zero, List.set_cons_succ])
  (refine held_take (v := ?_) (d := some 72) 2 (by kernel_rfl) (by kernel_rfl) rfl ?_ ?_
   rotate_left
   · intro w hSw
     conv in opOf _ _ => whnf
     (try dsimp only at hSw)
     go_simp
     try (with_reducible rfl)
   try simp only [Act.put, List.setIfInBounds_toArray, List.set_cons_zero, List.set_cons_succ])
  (refine held_take (v := ?_) (d := some 73) 3 (by kernel_rfl) (by kernel_rfl) rfl ?_ ?_
   rotate_left
   · intro w hSw
     conv in opOf _ _ => whnf
     (try dsimp only at hSw)
     go_simp
     try (with_reducible rfl)
   try simp only [Act.put, List.setIfInBounds_toArray, List.set_cons_zero, List.set_cons_succ])
  (refine held_take (v := ?_) (d := some 74) 4 (by kernel_rfl) (by kernel_rfl) rfl ?_ ?_
   rotate_left
   · intro w hSw
     conv in opOf _ _ => whnf
     (try dsimp only at hSw)
     go_simp
     try (with_reducible rfl)
   try simp only [Act.put, List.setIfInBounds_toArray, List.set_cons_zero, List.set_cons_succ])
  (refine held_take (v := ?_) (d := some 75) 5 (by kernel_rfl) (by kernel_rfl) rfl ?_ ?_
   rotate_left
   · intro w hSw
     conv in opOf _ _ => whnf
     (try dsimp only at hSw)
     go_simp
     try (with_reducible rfl)
   try simp only [Act.put, List.setIfInBounds_toArray, List.set_cons_zero, List.set_cons_succ])
  (refine held_take (v := ?_) (d := some 76) 6 (by kernel_rfl) (by kernel_rfl) rfl ?_ ?_
   rotate_left
   · intro w hSw
     conv in opOf _ _ => whnf
     (try dsimp only at hSw)
     go_simp
     try (with_reducible rfl)
   try simp only [Act.put, List.setIfInBounds_toArray, List.set_cons_zero, List.set_cons_succ])
  (refine held_take (v := ?_) (d := some 77) 7 (by kernel_rfl) (by kernel_rfl) rfl ?_ ?_
   rotate_left
   · intro w hSw
     conv in opOf _ _ => whnf
     (try dsimp only at hSw)
     go_simp
     try (with_reducible rfl)
   try simp only [Act.put, List.setIfInBounds_toArray, List.set_cons_zero, List.set_cons_succ])
  (refine held_take (v := ?_) (d := some 78) 8 (by kernel_rfl) (by kernel_rfl) rfl ?_ ?_
   rotate_left
   · intro w hSw
     conv in opOf _ _ => whnf
     (try dsimp only at hSw)
     go_simp
     try (with_reducible rfl)
   try simp only [Act.put, List.setIfInBounds_toArray, List.set_cons_zero, List.set_cons_succ])
  (refine held_take (v := ?_) (d := some 79) 9 (by kernel_rfl) (by kernel_rfl) rfl ?_ ?_
   rotate_left
   · intro w hSw
     conv in opOf _ _ => whnf
     (try dsimp only at hSw)
     go_simp
     try (with_reducible rfl)
   try simp only [Act.put, List.setIfInBounds_toArray, List.set_cons_zero, List.set_cons_succ])
  (refine held_take (v := ?_) (d := some 80) 10 (by kernel_rfl) (by kernel_rfl) rfl ?_ ?_
   rotate_left
   · intro w hSw
     conv in opOf _ _ => whnf
     (try dsimp only at hSw)
     go_simp
     try (with_reducible rfl)
   try simp only [Act.put, List.setIfInBounds_toArray, List.set_cons_zero, List.set_cons_succ])
  (refine held_take (v := ?_) (d := some 81) 11 (by kernel_rfl) (by kernel_rfl) rfl ?_ ?_
   rotate_left
   · intro w hSw
     conv in opOf _ _ => whnf
     (try dsimp only at hSw)
     go_simp
     try simp only [hwr]
     try (with_reducible rfl)
   try simp only [Act.put, List.setIfInBounds_toArray, List.set_cons_zero, List.set_cons_succ])
  (refine held_take (v := ?_) (d := some 82) 12 (by kernel_rfl) (by kernel_rfl) rfl ?_ ?_
   rotate_left
   · intro w hSw
     conv in opOf _ _ => whnf
     (try dsimp only at hSw)
     go_simp
     try (with_reducible rfl)
   try simp only [Act.put, List.setIfInBounds_toArray, List.set_cons_zero, List.set_cons_succ])
  (refine held_take (v := ?_) (d := some 83) 13 (by kernel_rfl) (by kernel_rfl) rfl ?_ ?_
   rotate_left
   · intro w hSw
     conv in opOf _ _ => whnf
     (try dsimp only at hSw)
     go_simp
     try (with_reducible rfl)
   try simp only [Act.put, List.setIfInBounds_toArray, List.set_cons_zero, List.set_cons_succ])
  (refine held_take (v := ?_) (d := some 84) 14 (by kernel_rfl) (by kernel_rfl) rfl ?_ ?_
   rotate_left
   · intro w hSw
     conv in opOf _ _ => whnf
     (try dsimp only at hSw)
     go_simp
     try (with_reducible rfl)
   try simp only [Act.put, List.setIfInBounds_toArray, List.set_cons_zero, List.set_cons_succ])
  (refine held_take (v := ?_) (d := some 85) 15 (by kernel_rfl) (by kernel_rfl) rfl ?_ ?_
   rotate_left
   · intro w hSw
     conv in opOf _ _ => whnf
     (try dsimp only at hSw)
     go_simp
     try (with_reducible rfl)
   try simp only [Act.put, List.setIfInBounds_toArray, List.set_cons_zero, List.set_cons_succ])
  (refine held_take (v := ?_) (d := some 86) 16 (by kernel_rfl) (by kernel_rfl) rfl ?_ ?_
   rotate_left
   · intro w hSw
     conv in opOf _ _ => whnf
     (try dsimp only at hSw)
     go_simp
     try (with_reducible rfl)
   try simp only [Act.put, List.setIfInBounds_toArray, List.set_cons_zero, List.set_cons_succ])
  (refine held_take (v := ?_) (d := some 87) 17 (by kernel_rfl) (by kernel_rfl) rfl ?_ ?_
   rotate_left
   · intro w hSw
     conv in opOf _ _ => whnf
     (try dsimp only at hSw)
     go_simp
     try (with_reducible rfl)
   try simp only [Act.put, List.setIfInBounds_toArray, List.set_cons_zero, List.set_cons_succ])
  (refine held_take (v := ?_) (d := some 88) 18 (by kernel_rfl) (by kernel_rfl) rfl ?_ ?_
   rotate_left
   · intro w hSw
     conv in opOf _ _ => whnf
     (try dsimp only at hSw)
     go_simp
     try simp only [hstr1 w hSw]
     try (with_reducible rfl)
   try simp only [Act.put, List.setIfInBounds_toArray, List.set_cons_zero, List.set_cons_succ])
  (refine held_take (v := ?_) (d := some 89) 19 (by kernel_rfl) (by kernel_rfl) rfl ?_ ?_
   rotate_left
   · intro w hSw
     conv in opOf _ _ => whnf
     (try dsimp only at hSw)
     go_simp
     try (with_reducible rfl)
   try simp only [Act.put, List.setIfInBounds_toArray, List.set_cons_zero, List.set_cons_succ])
  (refine held_take (v := ?_) (d := some 90) 20 (by kernel_rfl) (by kernel_rfl) rfl ?_ ?_
   rotate_left
   · intro w hSw
     conv in opOf _ _ => whnf
     (try dsimp only at hSw)
     go_simp
     try (with_reducible rfl)
   try simp only [Act.put, List.setIfInBounds_toArray, List.set_cons_zero, List.set_cons_succ])
  (refine held_take (v := ?_) (d := some 91) 21 (by kernel_rfl) (by kernel_rfl) rfl ?_ ?_
   rotate_left
   · intro w hSw
     conv in opOf _ _ => whnf
     (try dsimp only at hSw)
     go_simp
     try (with_reducible rfl)
   try simp only [Act.put, List.setIfInBounds_toArray, List.set_cons_zero, List.set_cons_succ])
  (refine held_take (v := ?_) (d := some 92) 22 (by kernel_rfl) (by kernel_rfl) rfl ?_ ?_
   rotate_left
   · intro w hSw
     conv in opOf _ _ => whnf
     (try dsimp only at hSw)
     go_simp
     try (with_reducible rfl)
   try simp only [Act.put, List.setIfInBounds_toArray, List.set_cons_zero, List.set_cons_succ])
  (refine held_take (v := ?_) (d := some 93) 23 (by kernel_rfl) (by kernel_rfl) rfl ?_ ?_
   rotate_left
   · intro w hSw
     conv in opOf _ _ => whnf
     (try dsimp only at hSw)
     go_simp
     try simp only [hwr]
     try (with_reducible rfl)
   try simp only [Act.put, List.setIfInBounds_toArray, List.set_cons_zero, List.set_cons_succ])
  (refine held_take (v := ?_) (d := some 94) 24 (by kernel_rfl) (by kernel_rfl) rfl ?_ ?_
   rotate_left
   · intro w hSw
     conv in opOf _ _ => whnf
     (try dsimp only at hSw)
     go_simp
     try (with_reducible rfl)
   try simp only [Act.put, List.setIfInBounds_toArray, List.set_cons_zero, List.set_cons_succ])
  (refine held_take (v := ?_) (d := some 95) 25 (by kernel_rfl) (by kernel_rfl) rfl ?_ ?_
   rotate_left
   · intro w hSw
     conv in opOf _ _ => whnf
     (try dsimp only at hSw)
     go_simp
     try simp only [hstr2 w hSw]
     try (with_reducible rfl)
   try simp only [Act.put, List.setIfInBounds_toArray, List.set_cons_zero, List.set_cons_succ])
  (refine held_take (v := ?_) (d := some 96) 26 (by kernel_rfl) (by kernel_rfl) rfl ?_ ?_
   rotate_left
   · intro w hSw
     conv in opOf _ _ => whnf
     (try dsimp only at hSw)
     go_simp
     try (with_reducible rfl)
   try simp only [Act.put, List.setIfInBounds_toArray, List.set_cons_zero, List.set_cons_succ])
  (refine held_take (v := ?_) (d := some 97) 27 (by kernel_rfl) (by kernel_rfl) rfl ?_ ?_
   rotate_left
   · intro w hSw
     conv in opOf _ _ => whnf
     (try dsimp only at hSw)
     go_simp
     try (with_reducible rfl)
   try simp only [Act.put, List.setIfInBounds_toArray, List.set_cons_zero, List.set_cons_succ])
  (refine held_take (v := ?_) (d := some 98) 28 (by kernel_rfl) (by kernel_rfl) rfl ?_ ?_
   rotate_left
   · intro w hSw
     conv in opOf _ _ => whnf
     (try dsimp only at hSw)
     go_simp
     try (with_reducible rfl)
   try simp only [Act.put, List.setIfInBounds_toArray, List.set_cons_zero, List.set_cons_succ])
  (refine held_one 29 (by kernel_rfl) (by kernel_rfl) (held_call (d := some 99) 29 (by kernel_rfl) (by kernel_rfl) rfl (fun hS => known7_any _ (hT8.grow hS)) (by kernel_rfl) (fun w' hS hbb => ⟨hS.trans (hbb.mono hS.size), ?_⟩))
   try simp only [Act.put, List.setIfInBounds_toArray, List.set_cons_zero, List.set_cons_succ])
  (refine held_take (v := ?_) (d := some 100) 30 (by kernel_rfl) (by kernel_rfl) rfl ?_ ?_
   rotate_left
   · intro w hSw
     conv in opOf _ _ => whnf
     (try dsimp only at hSw)
     go_simp
     try (with_reducible rfl)
   try simp only [Act.put, List.setIfInBounds_toArray, List.set_cons_zero, List.set_cons_succ])
  (refine held_take (v := ?_) (d := some 8) 31 (by kernel_rfl) (by kernel_rfl) rfl ?_ ?_
   rotate_left
   · intro w hSw
     conv in opOf _ _ => whnf
     (try dsimp only at hSw)
     go_simp
     try (with_reducible rfl)
   try simp only [Act.put, List.setIfInBounds_toArray, List.set_cons_zero, List.set_cons_succ])
  refine held_done (by kernel_rfl) (fun hS => hR.out _ _ ?_)
  go_wp2_with fail
  go_ret
  exact ⟨rfl, hB8.trans (hS.mono hB8.size)⟩

set_option maxRecDepth 20000 in
set_option maxHeartbeats 2000000 in
theorem ok_no (op a b n f : Int) (jo ja jb jn jf N : Int) (A1 A2 : Option Addr) (n1 c1 n2 c2 : Nat) (l1 l2 : List UInt8) (w : World) (hT : TabIs 0 w) (s1 : Sl w w.heap.size 1 A1 n1 (bs l1)) (s2 : Sl w w.heap.size 1 A2 n2 (bs l2)) (hc1 : n1 ≤ c1) (hc2 : n2 ≤ c2) (b1 : n1 ≤ 1048576) (b2 : n2 ≤ 1048576)
    (e : List UInt8) (he : e.length ≤ 6) (Hi : Hid (∀ w, TabIs 0 w → Calls Tryd.prog 22 #[.agg #[.int .i64 op, .int .i64 a, .int .i64 b, .int .i32 n, .int .i64 f]] w (GivesE w e)))
    (Hd1 : Hid (∀ A nn cc w, TabIs 0 w → Sl w w.heap.size 1 A nn (bs (l1 ++ (e ++ l2))) → nn ≤ cc → (nn : Int) ≤ 140737488351232 → Calls Tryd.prog 16 #[.slice A nn cc, .int .i64 n1] w fun en w' => en = .returned (.tuple #[.agg #[.int .i64 op, .int .i64 a, .int .i64 b, .int .i32 n, .int .i64 f], .int .i64 e.length, .int .i64 0]) ∧ Below w.heap.size w w'))
    (at_ : Int) (E2 : Int) (hE2 : (E2 != 0) = true) (Hd2 : Hid (∀ w, TabIs 0 w → Sl w w.heap.size 1 A2 n2 (bs l2) → Calls Tryd.prog 16 #[.slice A2 n2 c2, .int .i64 at_] w fun en w' => en = .returned (.tuple #[.agg #[.int .i64 jo, .int .i64 ja, .int .i64 jb, .int .i32 jn, .int .i64 jf], .int .i64 N, .int .i64 E2]) ∧ Below w.heap.size w w')) :
    Calls Tryd.prog 6 #[.agg #[.int .i64 op, .int .i64 a, .int .i64 b, .int .i32 n, .int .i64 f], .slice A1 n1 c1, .slice A2 n2 c2, .int .i64 at_] w fun en w' => en = .returned (.bool true) ∧ Below w.heap.size w w' := by
  obtain ⟨i0, hi0, hk0, hk1, hk2⟩ := info_parts u8_info
  have S1 := Lib.hid s1
  have S2 := Lib.hid s2
  clear s1 s2
  have HE := Lib.hid he
  clear he
  go_enter Tryd.func6, Tryd.ntmps6
  go_wp2_with (first
    | (go_at_call 22; (with_reducible refine (Hi.out _ (hT.alloc _)).mono ?_); rintro en w2 ⟨Ae, ne, ce, rfl, hce, hse, hb2⟩; have hT2 := (hT.alloc _).grow hb2; obtain ⟨hk2b, hz2, hB2⟩ := one_block hb2; have s12 := slA S1.out hb2; have s22 := slA S2.out hb2; have hle := hse.len; rw [bs_length, Nat.mul_one] at hle; have he6 := HE.out; rw [hle] at he6)
    | ((with_reducible show wpList _ _ _ (Oper.mk _ (Op.call { callee := _, args := #[Operand.tmp 27, Operand.tmp 28], argTypes := _ }) _ _ _ _ :: _) _ _)
       refine wpList_app _ rfl (.tmp 27) (.tmp 28) _ rfl w2.heap.size 5 i0 _ 1 1 Tryd.underlying22 hi0 hk0 hk1 hk2 rfl (by omega) (.slice (some ⟨w2.heap.size, 0, none⟩) 0 0) 0 [] (by kernel_rfl) (own_empty w2 5 1) w2.heap.size A1 n1 c1 (bs l1) (by kernel_rfl) (s12.alloc (Nat.le_refl _) _) (bs_one _) (by unfold maxLen; omega) (by omega) (by simp) n1 (by omega) (bs l1) (by simp) ?_
       intro A3 c3 w3 hc3 hown3 hg3 _
       have hb3 : Below w2.heap.size w2 w3 := below_app ((Below.refl _ _).alloc (Nat.le_refl _) _) (own_empty w2 5 1) hg3 (by simp))
    | ((with_reducible show wpList _ _ _ (Oper.mk _ (Op.call { callee := _, args := #[Operand.tmp 29, Operand.tmp 30], argTypes := _ }) _ _ _ _ :: _) _ _)
       refine wpList_app _ rfl (.tmp 29) (.tmp 30) _ rfl w2.heap.size 5 i0 _ 1 1 Tryd.underlying22 hi0 hk0 hk1 hk2 rfl (by omega) (.slice A3 n1 c3) n1 (bs l1) (by kernel_rfl) hown3 w2.heap.size Ae ne ce (bs e) (by kernel_rfl) (hse.below hb3) (bs_one _) (by unfold maxLen; omega) (by omega) hb3.size (n1 + ne) rfl (bs (l1 ++ e)) (by rw [bs_append]) ?_
       intro A4 c4 w4 hc4 hown4 hg4 _
       have hb4 : Below w2.heap.size w2 w4 := below_app hb3 hown3 hg4 hb3.size)
    | ((with_reducible show wpList _ _ _ (Oper.mk _ (Op.call { callee := _, args := #[Operand.tmp 31, Operand.tmp 32], argTypes := _ }) _ _ _ _ :: _) _ _)
       refine wpList_app _ rfl (.tmp 31) (.tmp 32) _ rfl w2.heap.size 5 i0 _ 1 1 Tryd.underlying22 hi0 hk0 hk1 hk2 rfl (by omega) (.slice A4 (n1 + ne) c4) (n1 + ne) (bs (l1 ++ e)) (by kernel_rfl) hown4 w2.heap.size A2 n2 c2 (bs l2) (by kernel_rfl) (s22.below hb4) (bs_one _) (by unfold maxLen; omega) (by omega) hb4.size (n1 + ne + n2) rfl (bs (l1 ++ (e ++ l2))) (by rw [← List.append_assoc, bs_append _ l2]) ?_
       intro A5 c5 w5 hc5 hown5 hg5 _
       have hb5 : Below w2.heap.size w2 w5 := below_app hb4 hown4 hg5 hb4.size)
    | (go_at_call 16; (with_reducible refine (Hd1.out A5 (n1 + ne + n2) c5 w5 (hT2.grow hb5) (Sl.of_own hown5) hc5 (by omega)).mono ?_); rw [hle]; rintro en w6 ⟨rfl, hb6⟩; have hb26 : Below w2.heap.size w2 w6 := hb5.trans (hb6.mono hb5.size); have hz6 := hb26.size; have hT6 := hT2.grow hb26; obtain ⟨a0, a1, a2, a3, a4⟩ := ins_cells (hk2b.below hb26 hz2); have hz6' : w.heap.size < w6.heap.size := (by omega); have s26 := slB s22 hb26; have hB6 : Below w.heap.size w w6 := hB2.trans (hb26.mono (by omega)))
    | (go_at_call 16; refine (Hd2.out _ (hT6.alloc _) ((s26.alloc (Nat.le_refl _) _).more (by simp))).mono ?_; rintro en w7 ⟨rfl, hb7⟩; have hT7 := (hT6.alloc _).grow hb7; have s27 := slA s26 hb7; have hB7 : Below w.heap.size w w7 := (hB6.alloc hB6.size _).trans (hb7.mono (by simp; omega)); have hz7 := hB7.size)
    | (go_at_call 19; refine (known7_any _ (hT7.alloc _)).mono ?_; rintro en w9 ⟨rfl, hb9⟩))
  go_ret
  exact ⟨rfl, (hB7.alloc hB7.size _).trans (hb9.mono (by simp; omega))⟩

set_option maxRecDepth 20000 in
set_option maxHeartbeats 2000000 in
theorem no_ok (op a b n f : Int) (A1 A2 : Option Addr) (n1 c1 n2 c2 : Nat) (l1 l2 : List UInt8) (w : World) (hT : TabIs 0 w) (s1 : Sl w w.heap.size 1 A1 n1 (bs l1)) (s2 : Sl w w.heap.size 1 A2 n2 (bs l2)) (hc1 : n1 ≤ c1) (hc2 : n2 ≤ c2) (b1 : n1 ≤ 1048576) (b2 : n2 ≤ 1048576)
    (C : Int) (hC : (C == 0) = false) (Hi : Hid (∀ w, TabIs 0 w → Calls Tryd.prog 22 #[.agg #[.int .i64 op, .int .i64 a, .int .i64 b, .int .i32 n, .int .i64 f]] w fun en w' => en = .returned (.tuple #[.slice none 0 0, .int .i64 C]) ∧ Below w.heap.size w w'))
    (F K : Nat) (jo ja jb jn jf : Int) (hF : F + K ≤ n2) (hK1 : 1 ≤ K) (Hd2 : Hid (∀ w, TabIs 0 w → Sl w w.heap.size 1 A2 n2 (bs l2) → Calls Tryd.prog 16 #[.slice A2 n2 c2, .int .i64 F] w fun en w' => en = .returned (.tuple #[.agg #[.int .i64 jo, .int .i64 ja, .int .i64 jb, .int .i32 jn, .int .i64 jf], .int .i64 K, .int .i64 0]) ∧ Below w.heap.size w w'))
    (L : List UInt8) (hL : L.length = K) (hLe : Hid (L = (l2.drop F).take K)) (Hj : Hid (∀ w, TabIs 0 w → Calls Tryd.prog 22 #[.agg #[.int .i64 jo, .int .i64 ja, .int .i64 jb, .int .i32 jn, .int .i64 jf]] w (GivesE w L))) :
    Calls Tryd.prog 6 #[.agg #[.int .i64 op, .int .i64 a, .int .i64 b, .int .i32 n, .int .i64 f], .slice A1 n1 c1, .slice A2 n2 c2, .int .i64 (F : Int)] w fun en w' => en = .returned (.bool true) ∧ Below w.heap.size w w' := by
  obtain ⟨i0, hi0, hk0, hk1, hk2⟩ := info_parts u8_info
  have S1 := Lib.hid s1
  have S2 := Lib.hid s2
  clear s1 s2
  go_enter Tryd.func6, Tryd.ntmps6
  go_wp2_with (first
    | (go_at_call 22; (with_reducible refine (Hi.out _ (hT.alloc _)).mono ?_); rintro en w2 ⟨rfl, hb2⟩; have hT2 := (hT.alloc _).grow hb2; obtain ⟨hk2b, hz2, hB2⟩ := one_block hb2; have s22 := slA S2.out hb2)
    | (go_at_call 16; refine (Hd2.out _ hT2 s22).mono ?_; rintro en w7 ⟨rfl, hb7⟩; have hT7 := hT2.grow hb7; have s27 := slB s22 hb7; have hB7 : Below w.heap.size w w7 := hB2.trans (hb7.mono (by omega)); have hz7 := hB7.size)
    | (go_at_call 22; (with_reducible refine (Hj.out _ (hT7.alloc _)).mono ?_); rintro en w8 ⟨A8, n8, c8, rfl, hc8, hs8, hb8⟩; have hT8 := (hT7.alloc _).grow hb8; have s28 := slA s27 hb8; have hB8 : Below w.heap.size w w8 := (hB7.alloc hB7.size _).trans (hb8.mono (by simp; omega)); have hl8 := hs8.len; rw [bs_length, Nat.mul_one, hL] at hl8))
  subst hl8
  have hl2 : l2.length = n2 := by have := S2.out.len; rw [bs_length] at this; omega
  obtain ⟨g2, o2, rfl, hg2, _⟩ := s28.at_ (by omega)
  obtain ⟨g8, o8, rfl, hg8, _⟩ := hs8.at_ (by omega)
  have hstr1 := fun W (hW : Below w8.heap.size w8 W) c => back_str hs8 (fun h => by cases h) W hW c
  have smid := s28.mid (i := F) (m := K) (by omega) hg2
  rw [← hLe.out] at smid
  have hstr2 := fun W (hW : Below w8.heap.size w8 W) c => back_str smid (fun h => by cases h) W hW c
  have q1 : (F : Int) + K ≤ n2 := by omega
  have q2 : ((F : Int) + (K : Int)).toNat = F + K := by omega
  have q3 : (c2 = F) = False := by simp; omega
  have q4 : F + K - F = K := by omega
  have q5 : F + K ≤ c2 := by omega
  have q6 : (F : Int) + K ≤ c2 := by omega
  have q7 : (0 : Int) ≤ (F : Int) + K := by omega
  have hwr : IntKind.i64.wrap ((F : Int) + (K : Int)) = (F : Int) + K := by simp [IntKind.wrap, IntKind.bits, IntKind.signed]; omega
  refine held_start (ops' := backOps) (l0 := #[false, false, false, false, false, false, false, false, false, false, false, false, false, false, false, false, false, false, false, false, false, false, false, false, false, false, false, false, false, false, false, false]) (S := (fun w' => Below w8.heap.size w8 w')) (by kernel_rfl) (by kernel_rfl) (by kernel_rfl) (by kernel_rfl) ((Below.refl _ _).drew) (fun R hR => ?_)
  (refine held_take (v := ?_) (d := some 70) 0 (by kernel_rfl) (by kernel_rfl) rfl ?_ ?_
   rotate_left
   · intro w hSw
     conv in opOf _ _ => whnf
     (try dsimp only at hSw)
     go_simp
     try (with_reducible rfl)
   try simp only [Act.put, List.setIfInBounds_toArray, List.set_cons_zero, List.set_cons_succ])
  (refine held_take (v := ?_) (d := some 71) 1 (by kernel_rfl) (by kernel_rfl) rfl ?_ ?_
   rotate_left
   · intro w hSw
     conv in opOf _ _ => whnf
     (try dsimp only at hSw)
     go_simp
     try (with_reducible rfl)
   try simp only [Act.put, List.setIfInBounds_toArray, List.set_cons_zero, List.set_cons_succ])
  (refine held_take (v := ?_) (d := some 72) 2 (by kernel_rfl) (by kernel_rfl) rfl ?_ ?_
   rotate_left
   · intro w hSw
     conv in opOf _ _ => whnf
     (try dsimp only at hSw)
     go_simp
     try (with_reducible rfl)
   try simp only [Act.put, List.setIfInBounds_toArray, List.set_cons_zero, List.set_cons_succ])
  (refine held_take (v := ?_) (d := some 73) 3 (by kernel_rfl) (by kernel_rfl) rfl ?_ ?_
   rotate_left
   · intro w hSw
     conv in opOf _ _ => whnf
     (try dsimp only at hSw)
     go_simp
     try (with_reducible rfl)
   try simp only [Act.put, List.setIfInBounds_toArray, List.set_cons_zero, List.set_cons_succ])
  (refine held_take (v := ?_) (d := some 74) 4 (by kernel_rfl) (by kernel_rfl) rfl ?_ ?_
   rotate_left
   · intro w hSw
     conv in opOf _ _ => whnf
     (try dsimp only at hSw)
     go_simp
     try (with_reducible rfl)
   try simp only [Act.put, List.setIfInBounds_toArray, List.set_cons_zero, List.set_cons_succ])
  (refine held_take (v := ?_) (d := some 75) 5 (by kernel_rfl) (by kernel_rfl) rfl ?_ ?_
   rotate_left
   · intro w hSw
     conv in opOf _ _ => whnf
     (try dsimp only at hSw)
     go_simp
     try (with_reducible rfl)
   try simp only [Act.put, List.setIfInBounds_toArray, List.set_cons_zero, List.set_cons_succ])
  (refine held_take (v := ?_) (d := some 76) 6 (by kernel_rfl) (by kernel_rfl) rfl ?_ ?_
   rotate_left
   · intro w hSw
     conv in opOf _ _ => whnf
     (try dsimp only at hSw)
     go_simp
     try (with_reducible rfl)
   try simp only [Act.put, List.setIfInBounds_toArray, List.set_cons_zero, List.set_cons_succ])
  (refine held_take (v := ?_) (d := some 77) 7 (by kernel_rfl) (by kernel_rfl) rfl ?_ ?_
   rotate_left
   · intro w hSw
     conv in opOf _ _ => whnf
     (try dsimp only at hSw)
     go_simp
     try (with_reducible rfl)
   try simp only [Act.put, List.setIfInBounds_toArray, List.set_cons_zero, List.set_cons_succ])
  (refine held_take (v := ?_) (d := some 78) 8 (by kernel_rfl) (by kernel_rfl) rfl ?_ ?_
   rotate_left
   · intro w hSw
     conv in opOf _ _ => whnf
     (try dsimp only at hSw)
     go_simp
     try (with_reducible rfl)
   try simp only [Act.put, List.setIfInBounds_toArray, List.set_cons_zero, List.set_cons_succ])
  (refine held_take (v := ?_) (d := some 79) 9 (by kernel_rfl) (by kernel_rfl) rfl ?_ ?_
   rotate_left
   · intro w hSw
     conv in opOf _ _ => whnf
     (try dsimp only at hSw)
     go_simp
     try (with_reducible rfl)
   try simp only [Act.put, List.setIfInBounds_toArray, List.set_cons_zero, List.set_cons_succ])
  (refine held_take (v := ?_) (d := some 80) 10 (by kernel_rfl) (by kernel_rfl) rfl ?_ ?_
   rotate_left
   · intro w hSw
     conv in opOf _ _ => whnf
     (try dsimp only at hSw)
     go_simp
     try (with_reducible rfl)
   try simp only [Act.put, List.setIfInBounds_toArray, List.set_cons_zero, List.set_cons_succ])
  (refine held_take (v := ?_) (d := some 81) 11 (by kernel_rfl) (by kernel_rfl) rfl ?_ ?_
   rotate_left
   · intro w hSw
     conv in opOf _ _ => whnf
     (try dsimp only at hSw)
     go_simp
     try simp only [hwr]
     try (with_reducible rfl)
   try simp only [Act.put, List.setIfInBounds_toArray, List.set_cons_zero, List.set_cons_succ])
  (refine held_take (v := ?_) (d := some 82) 12 (by kernel_rfl) (by kernel_rfl) rfl ?_ ?_
   rotate_left
   · intro w hSw
     conv in opOf _ _ => whnf
     (try dsimp only at hSw)
     go_simp
     try (with_reducible rfl)
   try simp only [Act.put, List.setIfInBounds_toArray, List.set_cons_zero, List.set_cons_succ])
  (refine held_take (v := ?_) (d := some 83) 13 (by kernel_rfl) (by kernel_rfl) rfl ?_ ?_
   rotate_left
   · intro w hSw
     conv in opOf _ _ => whnf
     (try dsimp only at hSw)
     go_simp
     try (with_reducible rfl)
   try simp only [Act.put, List.setIfInBounds_toArray, List.set_cons_zero, List.set_cons_succ])
  (refine held_take (v := ?_) (d := some 84) 14 (by kernel_rfl) (by kernel_rfl) rfl ?_ ?_
   rotate_left
   · intro w hSw
     conv in opOf _ _ => whnf
     (try dsimp only at hSw)
     go_simp
     try (with_reducible rfl)
   try simp only [Act.put, List.setIfInBounds_toArray, List.set_cons_zero, List.set_cons_succ])
  (refine held_take (v := ?_) (d := some 85) 15 (by kernel_rfl) (by kernel_rfl) rfl ?_ ?_
   rotate_left
   · intro w hSw
     conv in opOf _ _ => whnf
     (try dsimp only at hSw)
     go_simp
     try (with_reducible rfl)
   try simp only [Act.put, List.setIfInBounds_toArray, List.set_cons_zero, List.set_cons_succ])
  (refine held_take (v := ?_) (d := some 86) 16 (by kernel_rfl) (by kernel_rfl) rfl ?_ ?_
   rotate_left
   · intro w hSw
     conv in opOf _ _ => whnf
     (try dsimp only at hSw)
     go_simp
     try (with_reducible rfl)
   try simp only [Act.put, List.setIfInBounds_toArray, List.set_cons_zero, List.set_cons_succ])
  (refine held_take (v := ?_) (d := some 87) 17 (by kernel_rfl) (by kernel_rfl) rfl ?_ ?_
   rotate_left
   · intro w hSw
     conv in opOf _ _ => whnf
     (try dsimp only at hSw)
     go_simp
     try (with_reducible rfl)
   try simp only [Act.put, List.setIfInBounds_toArray, List.set_cons_zero, List.set_cons_succ])
  (refine held_take (v := ?_) (d := some 88) 18 (by kernel_rfl) (by kernel_rfl) rfl ?_ ?_
   rotate_left
   · intro w hSw
     conv in opOf _ _ => whnf
     (try dsimp only at hSw)
     go_simp
     try simp only [hstr1 w hSw]
     try (with_reducible rfl)
   try simp only [Act.put, List.setIfInBounds_toArray, List.set_cons_zero, List.set_cons_succ])
  (refine held_take (v := ?_) (d := some 89) 19 (by kernel_rfl) (by kernel_rfl) rfl ?_ ?_
   rotate_left
   · intro w hSw
     conv in opOf _ _ => whnf
     (try dsimp only at hSw)
     go_simp
     try (with_reducible rfl)
   try simp only [Act.put, List.setIfInBounds_toArray, List.set_cons_zero, List.set_cons_succ])
  (refine held_take (v := ?_) (d := some 90) 20 (by kernel_rfl) (by kernel_rfl) rfl ?_ ?_
   rotate_left
   · intro w hSw
     conv in opOf _ _ => whnf
     (try dsimp only at hSw)
     go_simp
     try (with_reducible rfl)
   try simp only [Act.put, List.setIfInBounds_toArray, List.set_cons_zero, List.set_cons_succ])
  (refine held_take (v := ?_) (d := some 91) 21 (by kernel_rfl) (by kernel_rfl) rfl ?_ ?_
   rotate_left
   · intro w hSw
     conv in opOf _ _ => whnf
     (try dsimp only at hSw)
     go_simp
     try (with_reducible rfl)
   try simp only [Act.put, List.setIfInBounds_toArray, List.set_cons_zero, List.set_cons_succ])
  (refine held_take (v := ?_) (d := some 92) 22 (by kernel_rfl) (by kernel_rfl) rfl ?_ ?_
   rotate_left
   · intro w hSw
     conv in opOf _ _ => whnf
     (try dsimp only at hSw)
     go_simp
     try (with_reducible rfl)
   try simp only [Act.put, List.setIfInBounds_toArray, List.set_cons_zero, List.set_cons_succ])
  (refine held_take (v := ?_) (d := some 93) 23 (by kernel_rfl) (by kernel_rfl) rfl ?_ ?_
   rotate_left
   · intro w hSw
     conv in opOf _ _ => whnf
     (try dsimp only at hSw)
     go_simp
     try simp only [hwr]
     try (with_reducible rfl)
   try simp only [Act.put, List.setIfInBounds_toArray, List.set_cons_zero, List.set_cons_succ])
  (refine held_take (v := ?_) (d := some 94) 24 (by kernel_rfl) (by kernel_rfl) rfl ?_ ?_
   rotate_left
   · intro w hSw
     conv in opOf _ _ => whnf
     (try dsimp only at hSw)
     go_simp
     try (with_reducible rfl)
   try simp only [Act.put, List.setIfInBounds_toArray, List.set_cons_zero, List.set_cons_succ])
  (refine held_take (v := ?_) (d := some 95) 25 (by kernel_rfl) (by kernel_rfl) rfl ?_ ?_
   rotate_left
   · intro w hSw
     conv in opOf _ _ => whnf
     (try dsimp only at hSw)
     go_simp
     try simp only [hstr2 w hSw]
     try (with_reducible rfl)
   try simp only [Act.put, List.setIfInBounds_toArray, List.set_cons_zero, List.set_cons_succ])
  (refine held_take (v := ?_) (d := some 96) 26 (by kernel_rfl) (by kernel_rfl) rfl ?_ ?_
   rotate_left
   · intro w hSw
     conv in opOf _ _ => whnf
     (try dsimp only at hSw)
     go_simp
     try (with_reducible rfl)
   try simp only [Act.put, List.setIfInBounds_toArray, List.set_cons_zero, List.set_cons_succ])
  (refine held_take (v := ?_) (d := some 97) 27 (by kernel_rfl) (by kernel_rfl) rfl ?_ ?_
   rotate_left
   · intro w hSw
     conv in opOf _ _ => whnf
     (try dsimp only at hSw)
     go_simp
     try (with_reducible rfl)
   try simp only [Act.put, List.setIfInBounds_toArray, List.set_cons_zero, List.set_cons_succ])
  (refine held_take (v := ?_) (d := some 98) 28 (by kernel_rfl) (by kernel_rfl) rfl ?_ ?_
   rotate_left
   · intro w hSw
     conv in opOf _ _ => whnf
     (try dsimp only at hSw)
     go_simp
     try (with_reducible rfl)
   try simp only [Act.put, List.setIfInBounds_toArray, List.set_cons_zero, List.set_cons_succ])
  (refine held_one 29 (by kernel_rfl) (by kernel_rfl) (held_call (d := some 99) 29 (by kernel_rfl) (by kernel_rfl) rfl (fun hS => known7_any _ (hT8.grow hS)) (by kernel_rfl) (fun w' hS hbb => ⟨hS.trans (hbb.mono hS.size), ?_⟩))
   try simp only [Act.put, List.setIfInBounds_toArray, List.set_cons_zero, List.set_cons_succ])
  (refine held_take (v := ?_) (d := some 100) 30 (by kernel_rfl) (by kernel_rfl) rfl ?_ ?_
   rotate_left
   · intro w hSw
     conv in opOf _ _ => whnf
     (try dsimp only at hSw)
     go_simp
     try (with_reducible rfl)
   try simp only [Act.put, List.setIfInBounds_toArray, List.set_cons_zero, List.set_cons_succ])
  (refine held_take (v := ?_) (d := some 8) 31 (by kernel_rfl) (by kernel_rfl) rfl ?_ ?_
   rotate_left
   · intro w hSw
     conv in opOf _ _ => whnf
     (try dsimp only at hSw)
     go_simp
     try (with_reducible rfl)
   try simp only [Act.put, List.setIfInBounds_toArray, List.set_cons_zero, List.set_cons_succ])
  refine held_done (by kernel_rfl) (fun hS => hR.out _ _ ?_)
  go_wp2_with fail
  go_ret
  exact ⟨rfl, hB8.trans (hS.mono hB8.size)⟩

set_option maxRecDepth 20000 in
set_option maxHeartbeats 2000000 in
theorem no_no (op a b n f : Int) (jo ja jb jn jf N : Int) (A1 A2 : Option Addr) (n1 c1 n2 c2 : Nat) (l1 l2 : List UInt8) (w : World) (hT : TabIs 0 w) (s1 : Sl w w.heap.size 1 A1 n1 (bs l1)) (s2 : Sl w w.heap.size 1 A2 n2 (bs l2)) (hc1 : n1 ≤ c1) (hc2 : n2 ≤ c2) (b1 : n1 ≤ 1048576) (b2 : n2 ≤ 1048576)
    (C : Int) (hC : (C == 0) = false) (Hi : Hid (∀ w, TabIs 0 w → Calls Tryd.prog 22 #[.agg #[.int .i64 op, .int .i64 a, .int .i64 b, .int .i32 n, .int .i64 f]] w fun en w' => en = .returned (.tuple #[.slice none 0 0, .int .i64 C]) ∧ Below w.heap.size w w'))
    (at_ : Int) (E2 : Int) (hE2 : (E2 != 0) = true) (Hd2 : Hid (∀ w, TabIs 0 w → Sl w w.heap.size 1 A2 n2 (bs l2) → Calls Tryd.prog 16 #[.slice A2 n2 c2, .int .i64 at_] w fun en w' => en = .returned (.tuple #[.agg #[.int .i64 jo, .int .i64 ja, .int .i64 jb, .int .i32 jn, .int .i64 jf], .int .i64 N, .int .i64 E2]) ∧ Below w.heap.size w w')) :
    Calls Tryd.prog 6 #[.agg #[.int .i64 op, .int .i64 a, .int .i64 b, .int .i32 n, .int .i64 f], .slice A1 n1 c1, .slice A2 n2 c2, .int .i64 at_] w fun en w' => en = .returned (.bool true) ∧ Below w.heap.size w w' := by
  obtain ⟨i0, hi0, hk0, hk1, hk2⟩ := info_parts u8_info
  have S1 := Lib.hid s1
  have S2 := Lib.hid s2
  clear s1 s2
  go_enter Tryd.func6, Tryd.ntmps6
  go_wp2_with (first
    | (go_at_call 22; (with_reducible refine (Hi.out _ (hT.alloc _)).mono ?_); rintro en w2 ⟨rfl, hb2⟩; have hT2 := (hT.alloc _).grow hb2; obtain ⟨hk2b, hz2, hB2⟩ := one_block hb2; have s22 := slA S2.out hb2)
    | (go_at_call 16; refine (Hd2.out _ hT2 s22).mono ?_; rintro en w7 ⟨rfl, hb7⟩; have hT7 := hT2.grow hb7; have s27 := slB s22 hb7; have hB7 : Below w.heap.size w w7 := hB2.trans (hb7.mono (by omega)); have hz7 := hB7.size)
    | (go_at_call 19; refine (known7_any _ (hT7.alloc _)).mono ?_; rintro en w9 ⟨rfl, hb9⟩))
  go_ret
  exact ⟨rfl, (hB7.alloc hB7.size _).trans (hb9.mono (by simp; omega))⟩

theorem walk (w : World) (i : Ins) (hi : i.Ok) (A1 : Option Addr) (n1 c1 : Nat) (l1 : List UInt8) (s1 : Sl w w.heap.size 1 A1 n1 (bs l1)) (hc1 : n1 ≤ c1) (b1 : n1 ≤ 1048576) (A2 : Option Addr) (n2 c2 : Nat) (l2 : List UInt8) (s2 : Sl w w.heap.size 1 A2 n2 (bs l2)) (hc2 : n2 ≤ c2) (b2 : n2 ≤ 1048576)
    (at_ : Int) (hat : -9223372036854775808 ≤ at_ ∧ at_ ≤ 9223372036854775807) (hT : TabIs 0 w) :
    Calls Tryd.prog 6 #[i.val, .slice A1 n1 c1, .slice A2 n2 c2, .int .i64 at_] w fun e w' => e = .returned (.bool true) ∧ Below w.heap.size w w' := by
  obtain ⟨op, a, b, n, f⟩ := i
  obtain ⟨_, _, _, hn, _⟩ := hi
  have hl1 : l1.length = n1 := by have := s1.len; rw [bs_length] at this; omega
  have hl2 : l2.length = n2 := by have := s2.len; rw [bs_length] at this; omega
  have hd2 := fun w (hT : TabIs 0 w) (hs : Sl w w.heap.size 1 A2 n2 (bs l2)) => decode_any A2 n2 c2 l2 at_ w hT hs hc2 (by omega) hat.1 hat.2
  obtain ⟨r, hr⟩ : ∃ r, r = decR l2 at_ := ⟨_, rfl⟩
  rw [← hr] at hd2
  obtain ⟨⟨jo, ja, jb, jn, jf⟩, N, E2⟩ := r
  have hd1 : checkR op a b n f = 0 → ∀ A nn cc w, TabIs 0 w → Sl w w.heap.size 1 A nn (bs (l1 ++ (encR op a b n f ++ l2))) → nn ≤ cc → (nn : Int) ≤ 140737488351232 → Calls Tryd.prog 16 #[.slice A nn cc, .int .i64 n1] w fun en w' => en = .returned (.tuple #[.agg #[.int .i64 op, .int .i64 a, .int .i64 b, .int .i32 n, .int .i64 f], .int .i64 (encR op a b n f).length, .int .i64 0]) ∧ Below w.heap.size w w' := by
    intro h A nn cc w hT hs hcc hb
    have h1 := decode_any A nn cc _ (n1 : Int) w hT hs hcc hb (by omega) (by omega)
    rw [← hl1, dec_enc l1 l2 h hn] at h1
    rw [← hl1]
    exact h1
  by_cases hE : E2 = 0
  · subst hE
    obtain ⟨g1, g2, g3, g4, g5, g6, g7⟩ := enc_dec hr.symm
    simp only at g1 g2 g7
    obtain ⟨F, rfl⟩ := Int.eq_ofNat_of_zero_le g3
    obtain ⟨K, rfl⟩ := Int.eq_ofNat_of_zero_le (show 0 ≤ N by omega)
    simp only [Int.toNat_natCast] at g7
    have hL : (encR jo ja jb jn jf).length = K := by rw [g7, List.length_take, List.length_drop]; omega
    have hj := fun w hT => encode_yes jo ja jb jn jf w hT g2 g1
    by_cases hC : checkR op a b n f = 0
    · exact ok_ok op a b n f A1 A2 n1 c1 n2 c2 l1 l2 w hT s1 s2 hc1 hc2 b1 b2 (encR op a b n f) (encR_len hC).2 (Lib.hid fun w hT => encode_yes op a b n f w hT hn hC) (Lib.hid (hd1 hC)) F K jo ja jb jn jf (by omega) (by omega) (Lib.hid hd2) _ hL (Lib.hid g7) (Lib.hid hj)
    · exact no_ok op a b n f A1 A2 n1 c1 n2 c2 l1 l2 w hT s1 s2 hc1 hc2 b1 b2 _ (by simpa using hC) (Lib.hid fun w hT => encode_no op a b n f w hT hn hC) F K jo ja jb jn jf (by omega) (by omega) (Lib.hid hd2) _ hL (Lib.hid g7) (Lib.hid hj)
  · by_cases hC : checkR op a b n f = 0
    · exact ok_no op a b n f jo ja jb jn jf N A1 A2 n1 c1 n2 c2 l1 l2 w hT s1 s2 hc1 hc2 b1 b2 (encR op a b n f) (encR_len hC).2 (Lib.hid fun w hT => encode_yes op a b n f w hT hn hC) (Lib.hid (hd1 hC)) at_ E2 (by simpa using hE) (Lib.hid hd2)
    · exact no_no op a b n f jo ja jb jn jf N A1 A2 n1 c1 n2 c2 l1 l2 w hT s1 s2 hc1 hc2 b1 b2 _ (by simpa using hC) (Lib.hid fun w hT => encode_no op a b n f w hT hn hC) at_ E2 (by simpa using hE) (Lib.hid hd2)
end Go.Proofs.YthcjnkakfpmpbaaDoor.decodeBack
