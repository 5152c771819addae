/- Law EncodeApart: unlike instructions have unlike encodings, none a beginning of the other's. Conditions: none. -/
import Derived.Test.YtfplkmldleigpaaDoorE2
import Derived.Test.YtfplkmldleigpaaDoorR1
import Derived.Test.YtfplkmldleigpaaDoorO3
namespace Go.Proofs.YtfplkmldleigpaaDoor.encodeApart
open Go.RowKit
set_option linter.unusedVariables false
set_option linter.unusedSimpArgs false

theorem tabHeld {g : Nat} {w0 w1 : World} (hT : TabIs g w0) (h : Below w0.heap.size w0 w1) : TabIs g w1 := hT.grow h
noncomputable def apartOps : Array Oper := regOf Tryd.f11.body 8
theorem ins_cells {W : World} {g : Nat} {t : TypeId} {a b c d e : Value} (h : Blk W g t [a, b, c, d, e]) : W.cell? ⟨g, 0, none⟩ = some a ∧ W.cell? ⟨g, 1, none⟩ = some b ∧ W.cell? ⟨g, 2, none⟩ = some c ∧ W.cell? ⟨g, 3, none⟩ = some d ∧ W.cell? ⟨g, 4, none⟩ = some e :=
  ⟨h.cell 0, h.cell 1, h.cell 2, h.cell 3, h.cell 4⟩
theorem two_blocks {w w1 : World} {t : TypeId} {a b c d e a' b' c' d' e' : Value}
    (hb : Below ((w.alloc (.cells #[a, b, c, d, e] t)).alloc (.cells #[a', b', c', d', e'] t)).heap.size ((w.alloc (.cells #[a, b, c, d, e] t)).alloc (.cells #[a', b', c', d', e'] t)) w1) :
    Blk w1 w.heap.size t [a, b, c, d, e] ∧ Blk w1 (w.heap.size + 1) t [a', b', c', d', e'] ∧ w.heap.size + 1 < w1.heap.size ∧ Below w.heap.size w w1 := by
  have hz := hb.size
  simp at hz
  refine ⟨((Blk.new w t [a, b, c, d, e]).alloc _).below hb (by simp; omega), ?_, by omega, ?_⟩
  · have := (Blk.new (w.alloc (.cells #[a, b, c, d, e] t)) t [a', b', c', d', e']).below hb (by simp)
    simpa using this
  · exact (((Below.refl _ _).alloc (Nat.le_refl _) _).alloc (by simp) _).trans (hb.mono (by simp; omega))

set_option maxHeartbeats 1000000 in
theorem bad1 (op a b n f op2 a2 b2 n2 f2 : Int) (C1 C2 : Int) (w : World) (hT : TabIs 0 w) (hC : (C1 != 0) = true)
    (Hi : Hid (∀ w, TabIs 0 w → Calls Tryd.prog 34 #[.agg #[.int .i64 op, .int .i64 a, .int .i64 b, .int .i32 n, .int .i64 f]] w fun e w' => (∃ A k c, e = .returned (.tuple #[.slice A k c, .int .i64 C1])) ∧ Below w.heap.size w w'))
    (Hj : Hid (∀ w, TabIs 0 w → Calls Tryd.prog 34 #[.agg #[.int .i64 op2, .int .i64 a2, .int .i64 b2, .int .i32 n2, .int .i64 f2]] w fun e w' => (∃ A k c, e = .returned (.tuple #[.slice A k c, .int .i64 C2])) ∧ Below w.heap.size w w')) :
    Calls Tryd.prog 11 #[.agg #[.int .i64 op, .int .i64 a, .int .i64 b, .int .i32 n, .int .i64 f], .agg #[.int .i64 op2, .int .i64 a2, .int .i64 b2, .int .i32 n2, .int .i64 f2]] w fun e w' => e = .returned (.bool true) ∧ Below w.heap.size w w' := by
  go_enter Tryd.func11, Tryd.ntmps11
  go_wp2_with (first
    | (go_at_call 34; (with_reducible refine (Hi.out _ ((hT.alloc _).alloc _)).mono ?_); rintro e w1 ⟨⟨A1, k1, c1, rfl⟩, hb1⟩; have hT1 := ((hT.alloc _).alloc _).grow hb1; obtain ⟨hk1, hk2, hz1, hB1⟩ := two_blocks hb1; have hz1' : w.heap.size < w1.heap.size := (by omega); obtain ⟨x0, x1, x2, x3, x4⟩ := ins_cells hk1; obtain ⟨y0, y1, y2, y3, y4⟩ := ins_cells hk2)
    | (go_at_call 34; (with_reducible refine (Hj.out _ hT1).mono ?_); rintro e w2 ⟨⟨A2, k2, c2, rfl⟩, hb2⟩; have hT2 := hT1.grow hb2; have hz2 := hb2.size; obtain ⟨u0, u1, u2, u3, u4⟩ := ins_cells (hk1.below hb2 hz1'); obtain ⟨v0, v1, v2, v3, v4⟩ := ins_cells (hk2.below hb2 hz1))
    | (go_at_call 37; refine (known6_any _ hT2).mono ?_; rintro e w3 ⟨rfl, hb3⟩))
  go_ret
  exact ⟨rfl, (hB1.trans (hb2.mono (by omega))).trans (hb3.mono (by omega))⟩

set_option maxHeartbeats 1000000 in
theorem bad2 (op a b n f op2 a2 b2 n2 f2 : Int) (C1 C2 : Int) (w : World) (hT : TabIs 0 w) (hC : (C2 != 0) = true)
    (Hi : Hid (∀ w, TabIs 0 w → Calls Tryd.prog 34 #[.agg #[.int .i64 op, .int .i64 a, .int .i64 b, .int .i32 n, .int .i64 f]] w fun e w' => (∃ A k c, e = .returned (.tuple #[.slice A k c, .int .i64 0])) ∧ Below w.heap.size w w'))
    (Hj : Hid (∀ w, TabIs 0 w → Calls Tryd.prog 34 #[.agg #[.int .i64 op2, .int .i64 a2, .int .i64 b2, .int .i32 n2, .int .i64 f2]] w fun e w' => (∃ A k c, e = .returned (.tuple #[.slice A k c, .int .i64 C2])) ∧ Below w.heap.size w w')) :
    Calls Tryd.prog 11 #[.agg #[.int .i64 op, .int .i64 a, .int .i64 b, .int .i32 n, .int .i64 f], .agg #[.int .i64 op2, .int .i64 a2, .int .i64 b2, .int .i32 n2, .int .i64 f2]] w fun e w' => e = .returned (.bool true) ∧ Below w.heap.size w w' := by
  go_enter Tryd.func11, Tryd.ntmps11
  go_wp2_with (first
    | (go_at_call 34; (with_reducible refine (Hi.out _ ((hT.alloc _).alloc _)).mono ?_); rintro e w1 ⟨⟨A1, k1, c1, rfl⟩, hb1⟩; have hT1 := ((hT.alloc _).alloc _).grow hb1; obtain ⟨hk1, hk2, hz1, hB1⟩ := two_blocks hb1; have hz1' : w.heap.size < w1.heap.size := (by omega); obtain ⟨x0, x1, x2, x3, x4⟩ := ins_cells hk1; obtain ⟨y0, y1, y2, y3, y4⟩ := ins_cells hk2)
    | (go_at_call 34; (with_reducible refine (Hj.out _ hT1).mono ?_); rintro e w2 ⟨⟨A2, k2, c2, rfl⟩, hb2⟩; have hT2 := hT1.grow hb2; have hz2 := hb2.size; obtain ⟨u0, u1, u2, u3, u4⟩ := ins_cells (hk1.below hb2 hz1'); obtain ⟨v0, v1, v2, v3, v4⟩ := ins_cells (hk2.below hb2 hz1))
    | (go_at_call 37; refine (known6_any _ hT2).mono ?_; rintro e w3 ⟨rfl, hb3⟩))
  go_ret
  exact ⟨rfl, (hB1.trans (hb2.mono (by omega))).trans (hb3.mono (by omega))⟩

set_option maxHeartbeats 1000000 in
theorem same (op a b n f op2 a2 b2 n2 f2 : Int) (C1 C2 : Int) (w : World) (hT : TabIs 0 w) 
    (Hi : Hid (∀ w, TabIs 0 w → Calls Tryd.prog 34 #[.agg #[.int .i64 op, .int .i64 a, .int .i64 b, .int .i32 n, .int .i64 f]] w fun e w' => (∃ A k c, e = .returned (.tuple #[.slice A k c, .int .i64 0])) ∧ Below w.heap.size w w'))
    (Hj : Hid (∀ w, TabIs 0 w → Calls Tryd.prog 34 #[.agg #[.int .i64 op, .int .i64 a, .int .i64 b, .int .i32 n, .int .i64 f]] w fun e w' => (∃ A k c, e = .returned (.tuple #[.slice A k c, .int .i64 0])) ∧ Below w.heap.size w w')) :
    Calls Tryd.prog 11 #[.agg #[.int .i64 op, .int .i64 a, .int .i64 b, .int .i32 n, .int .i64 f], .agg #[.int .i64 op, .int .i64 a, .int .i64 b, .int .i32 n, .int .i64 f]] w fun e w' => e = .returned (.bool true) ∧ Below w.heap.size w w' := by
  go_enter Tryd.func11, Tryd.ntmps11
  go_wp2_with (first
    | (go_at_call 34; (with_reducible refine (Hi.out _ ((hT.alloc _).alloc _)).mono ?_); rintro e w1 ⟨⟨A1, k1, c1, rfl⟩, hb1⟩; have hT1 := ((hT.alloc _).alloc _).grow hb1; obtain ⟨hk1, hk2, hz1, hB1⟩ := two_blocks hb1; have hz1' : w.heap.size < w1.heap.size := (by omega); obtain ⟨x0, x1, x2, x3, x4⟩ := ins_cells hk1; obtain ⟨y0, y1, y2, y3, y4⟩ := ins_cells hk2)
    | (go_at_call 34; (with_reducible refine (Hi.out _ hT1).mono ?_); rintro e w2 ⟨⟨A2, k2, c2, rfl⟩, hb2⟩; have hT2 := hT1.grow hb2; have hz2 := hb2.size; obtain ⟨u0, u1, u2, u3, u4⟩ := ins_cells (hk1.below hb2 hz1'); obtain ⟨v0, v1, v2, v3, v4⟩ := ins_cells (hk2.below hb2 hz1))
    | (go_at_call 37; refine (known6_any _ hT2).mono ?_; rintro e w3 ⟨rfl, hb3⟩))
  go_ret
  exact ⟨rfl, (hB1.trans (hb2.mono (by omega))).trans (hb3.mono (by omega))⟩

theorem front_str {w : World} {B b o k : Nat} {l L : List UInt8} (m : Nat) (hs : Sl w B 1 (some ⟨b, o, none⟩) k (bs l)) (hm : m ≤ k) (hL : L = l.take m) (W : World) (hb : Below B w W) (c : Nat) :
    (convert 55 9 (.slice (some ⟨b, o, none⟩) m c)).run Tryd.prog W = .ok (.string ⟨L.toArray⟩) W := by
  subst hL
  have h1 := (hs.below hb).front hm
  rw [bs_take, Nat.mul_one] at h1
  exact run_str _ _ 5 Tryd.underlying55 Tryd.underlying5 Tryd.underlying9 h1 (fun h => by cases h)

set_option maxHeartbeats 1000000 in
theorem diff_lt (op a b n f op2 a2 b2 n2 f2 : Int) (k1 k2 : Nat) (l1 l2 L1 L2 : List UInt8) (w : World) (hT : TabIs 0 w) (hIJ : ¬ (op = op2 ∧ a = a2 ∧ b = b2 ∧ n = n2 ∧ f = f2)) (hp1 : 0 < k1) (hp2 : 0 < k2) (hlt : k2 < k1) (hL : (L1 == L2) = false)
    (hL1 : Hid (L1 = l1.take k2)) (hL2 : Hid (L2 = l2.take k2))
    (Hi : Hid (∀ w, TabIs 0 w → Calls Tryd.prog 34 #[.agg #[.int .i64 op, .int .i64 a, .int .i64 b, .int .i32 n, .int .i64 f]] w fun e w' => (∃ b o c, e = .returned (.tuple #[.slice (some ⟨b, o, none⟩) k1 c, .int .i64 0]) ∧ (k1 : Int) ≤ c ∧ b < w'.heap.size ∧ Sl w' w'.heap.size 1 (some ⟨b, o, none⟩) k1 (bs l1)) ∧ Below w.heap.size w w'))
    (Hj : Hid (∀ w, TabIs 0 w → Calls Tryd.prog 34 #[.agg #[.int .i64 op2, .int .i64 a2, .int .i64 b2, .int .i32 n2, .int .i64 f2]] w fun e w' => (∃ b o c, e = .returned (.tuple #[.slice (some ⟨b, o, none⟩) k2 c, .int .i64 0]) ∧ (k2 : Int) ≤ c ∧ b < w'.heap.size ∧ Sl w' w'.heap.size 1 (some ⟨b, o, none⟩) k2 (bs l2)) ∧ Below w.heap.size w w')) :
    Calls Tryd.prog 11 #[.agg #[.int .i64 op, .int .i64 a, .int .i64 b, .int .i32 n, .int .i64 f], .agg #[.int .i64 op2, .int .i64 a2, .int .i64 b2, .int .i32 n2, .int .i64 f2]] w fun e w' => e = .returned (.bool true) ∧ Below w.heap.size w w' := by
  go_enter Tryd.func11, Tryd.ntmps11
  go_wp2_with (first
    | (go_at_call 34; (with_reducible refine (Hi.out _ ((hT.alloc _).alloc _)).mono ?_); rintro e w1 ⟨⟨b1, o1, c1, rfl, hc1, hlb1, hs1⟩, hb1⟩; have hT1 := ((hT.alloc _).alloc _).grow hb1; obtain ⟨hk1, hk2, hz1, hB1⟩ := two_blocks hb1; have hz1' : w.heap.size < w1.heap.size := (by omega); obtain ⟨x0, x1, x2, x3, x4⟩ := ins_cells hk1; obtain ⟨y0, y1, y2, y3, y4⟩ := ins_cells hk2)
    | (go_at_call 34; (with_reducible refine (Hj.out _ hT1).mono ?_); rintro e w2 ⟨⟨b2, o2, c2, rfl, hc2, hlb2, hs2⟩, hb2⟩; have hT2 := hT1.grow hb2; have hz2 := hb2.size; obtain ⟨u0, u1, u2, u3, u4⟩ := ins_cells (hk1.below hb2 hz1'); obtain ⟨v0, v1, v2, v3, v4⟩ := ins_cells (hk2.below hb2 hz1)))
  all_goals
   have hm1 : (k2 : Int) ≤ c1 := by omega
   have hm2 : (k2 : Int) ≤ c2 := by omega
   have hstr1 := fun W (hW : Below w2.heap.size w2 W) c => front_str k2 ((hs1.below hb2).more hz2) (by omega) hL1.out W hW c
   have hstr2 := fun W (hW : Below w2.heap.size w2 W) c => front_str k2 hs2 (by omega) hL2.out W hW c
   refine held_start (ops' := apartOps) (l0 := #[false, false, false, false, false, false, false, false, false, false, false, false, false]) (S := (fun w' => Below w2.heap.size w2 w')) (by kernel_rfl) (by kernel_rfl) (by kernel_rfl) (by kernel_rfl) ((Below.refl _ _).drew) (fun R hR => ?_)
   (refine held_take (v := ?_) (d := some 40) 0 (by kernel_rfl) (by kernel_rfl) rfl ?_ ?_
    rotate_left
    · intro w hSw
      conv in opOf _ _ => whnf
      (try dsimp only at hSw)
      go_simp
      try (with_reducible rfl)
    try simp only [Act.put, List.setIfInBounds_toArray, List.set_cons_zero, List.set_cons_succ])
   (refine held_take (v := ?_) (d := some 41) 1 (by kernel_rfl) (by kernel_rfl) rfl ?_ ?_
    rotate_left
    · intro w hSw
      conv in opOf _ _ => whnf
      (try dsimp only at hSw)
      go_simp
      try (with_reducible rfl)
    try simp only [Act.put, List.setIfInBounds_toArray, List.set_cons_zero, List.set_cons_succ])
   (refine held_take (v := ?_) (d := some 42) 2 (by kernel_rfl) (by kernel_rfl) rfl ?_ ?_
    rotate_left
    · intro w hSw
      conv in opOf _ _ => whnf
      (try dsimp only at hSw)
      go_simp
      try (with_reducible rfl)
    try simp only [Act.put, List.setIfInBounds_toArray, List.set_cons_zero, List.set_cons_succ])
   (refine held_take (v := ?_) (d := some 43) 3 (by kernel_rfl) (by kernel_rfl) rfl ?_ ?_
    rotate_left
    · intro w hSw
      conv in opOf _ _ => whnf
      (try dsimp only at hSw)
      go_simp
      try simp only [hstr1 w hSw]
      try (with_reducible rfl)
    try simp only [Act.put, List.setIfInBounds_toArray, List.set_cons_zero, List.set_cons_succ])
   (refine held_take (v := ?_) (d := some 44) 4 (by kernel_rfl) (by kernel_rfl) rfl ?_ ?_
    rotate_left
    · intro w hSw
      conv in opOf _ _ => whnf
      (try dsimp only at hSw)
      go_simp
      try (with_reducible rfl)
    try simp only [Act.put, List.setIfInBounds_toArray, List.set_cons_zero, List.set_cons_succ])
   (refine held_take (v := ?_) (d := some 45) 5 (by kernel_rfl) (by kernel_rfl) rfl ?_ ?_
    rotate_left
    · intro w hSw
      conv in opOf _ _ => whnf
      (try dsimp only at hSw)
      go_simp
      try (with_reducible rfl)
    try simp only [Act.put, List.setIfInBounds_toArray, List.set_cons_zero, List.set_cons_succ])
   (refine held_take (v := ?_) (d := some 46) 6 (by kernel_rfl) (by kernel_rfl) rfl ?_ ?_
    rotate_left
    · intro w hSw
      conv in opOf _ _ => whnf
      (try dsimp only at hSw)
      go_simp
      try (with_reducible rfl)
    try simp only [Act.put, List.setIfInBounds_toArray, List.set_cons_zero, List.set_cons_succ])
   (refine held_take (v := ?_) (d := some 47) 7 (by kernel_rfl) (by kernel_rfl) rfl ?_ ?_
    rotate_left
    · intro w hSw
      conv in opOf _ _ => whnf
      (try dsimp only at hSw)
      go_simp
      try simp only [hstr2 w hSw]
      try (with_reducible rfl)
    try simp only [Act.put, List.setIfInBounds_toArray, List.set_cons_zero, List.set_cons_succ])
   (refine held_take (v := ?_) (d := some 48) 8 (by kernel_rfl) (by kernel_rfl) rfl ?_ ?_
    rotate_left
    · intro w hSw
      conv in opOf _ _ => whnf
      (try dsimp only at hSw)
      go_simp
      try simp only [hL, Bool.not_false]
      try (with_reducible rfl)
    try simp only [Act.put, List.setIfInBounds_toArray, List.set_cons_zero, List.set_cons_succ])
   (refine held_take (v := ?_) (d := some 49) 9 (by kernel_rfl) (by kernel_rfl) rfl ?_ ?_
    rotate_left
    · intro w hSw
      conv in opOf _ _ => whnf
      (try dsimp only at hSw)
      go_simp
      try (with_reducible rfl)
    try simp only [Act.put, List.setIfInBounds_toArray, List.set_cons_zero, List.set_cons_succ])
   (refine held_one 10 (by kernel_rfl) (by kernel_rfl) (held_call (d := some 50) 10 (by kernel_rfl) (by kernel_rfl) rfl (fun hS => known6_any _ (tabHeld hT2 hS)) (by kernel_rfl) (fun w' hS hbb => ⟨hS.trans (hbb.mono hS.size), ?_⟩))
    try simp only [Act.put, List.setIfInBounds_toArray, List.set_cons_zero, List.set_cons_succ])
   (refine held_take (v := ?_) (d := some 51) 11 (by kernel_rfl) (by kernel_rfl) rfl ?_ ?_
    rotate_left
    · intro w hSw
      conv in opOf _ _ => whnf
      (try dsimp only at hSw)
      go_simp
      try (with_reducible rfl)
    try simp only [Act.put, List.setIfInBounds_toArray, List.set_cons_zero, List.set_cons_succ])
   (refine held_take (v := ?_) (d := some 4) 12 (by kernel_rfl) (by kernel_rfl) rfl ?_ ?_
    rotate_left
    · intro w hSw
      conv in opOf _ _ => whnf
      (try dsimp only at hSw)
      go_simp
      try (with_reducible rfl)
    try simp only [Act.put, List.setIfInBounds_toArray, List.set_cons_zero, List.set_cons_succ])
   refine held_done (by kernel_rfl) (fun hS => hR.out _ _ ?_)
   go_wp2_with fail
   go_ret
   exact ⟨rfl, (hB1.trans (hb2.mono (by omega))).trans (hS.mono (by omega))⟩

set_option maxHeartbeats 1000000 in
theorem diff_ge (op a b n f op2 a2 b2 n2 f2 : Int) (k1 k2 : Nat) (l1 l2 L1 L2 : List UInt8) (w : World) (hT : TabIs 0 w) (hIJ : ¬ (op = op2 ∧ a = a2 ∧ b = b2 ∧ n = n2 ∧ f = f2)) (hp1 : 0 < k1) (hp2 : 0 < k2) (hlt : ¬ k2 < k1) (hL : (L1 == L2) = false)
    (hL1 : Hid (L1 = l1.take k1)) (hL2 : Hid (L2 = l2.take k1))
    (Hi : Hid (∀ w, TabIs 0 w → Calls Tryd.prog 34 #[.agg #[.int .i64 op, .int .i64 a, .int .i64 b, .int .i32 n, .int .i64 f]] w fun e w' => (∃ b o c, e = .returned (.tuple #[.slice (some ⟨b, o, none⟩) k1 c, .int .i64 0]) ∧ (k1 : Int) ≤ c ∧ b < w'.heap.size ∧ Sl w' w'.heap.size 1 (some ⟨b, o, none⟩) k1 (bs l1)) ∧ Below w.heap.size w w'))
    (Hj : Hid (∀ w, TabIs 0 w → Calls Tryd.prog 34 #[.agg #[.int .i64 op2, .int .i64 a2, .int .i64 b2, .int .i32 n2, .int .i64 f2]] w fun e w' => (∃ b o c, e = .returned (.tuple #[.slice (some ⟨b, o, none⟩) k2 c, .int .i64 0]) ∧ (k2 : Int) ≤ c ∧ b < w'.heap.size ∧ Sl w' w'.heap.size 1 (some ⟨b, o, none⟩) k2 (bs l2)) ∧ Below w.heap.size w w')) :
    Calls Tryd.prog 11 #[.agg #[.int .i64 op, .int .i64 a, .int .i64 b, .int .i32 n, .int .i64 f], .agg #[.int .i64 op2, .int .i64 a2, .int .i64 b2, .int .i32 n2, .int .i64 f2]] w fun e w' => e = .returned (.bool true) ∧ Below w.heap.size w w' := by
  go_enter Tryd.func11, Tryd.ntmps11
  go_wp2_with (first
    | (go_at_call 34; (with_reducible refine (Hi.out _ ((hT.alloc _).alloc _)).mono ?_); rintro e w1 ⟨⟨b1, o1, c1, rfl, hc1, hlb1, hs1⟩, hb1⟩; have hT1 := ((hT.alloc _).alloc _).grow hb1; obtain ⟨hk1, hk2, hz1, hB1⟩ := two_blocks hb1; have hz1' : w.heap.size < w1.heap.size := (by omega); obtain ⟨x0, x1, x2, x3, x4⟩ := ins_cells hk1; obtain ⟨y0, y1, y2, y3, y4⟩ := ins_cells hk2)
    | (go_at_call 34; (with_reducible refine (Hj.out _ hT1).mono ?_); rintro e w2 ⟨⟨b2, o2, c2, rfl, hc2, hlb2, hs2⟩, hb2⟩; have hT2 := hT1.grow hb2; have hz2 := hb2.size; obtain ⟨u0, u1, u2, u3, u4⟩ := ins_cells (hk1.below hb2 hz1'); obtain ⟨v0, v1, v2, v3, v4⟩ := ins_cells (hk2.below hb2 hz1)))
  all_goals
   have hm1 : (k1 : Int) ≤ c1 := by omega
   have hm2 : (k1 : Int) ≤ c2 := by omega
   have hstr1 := fun W (hW : Below w2.heap.size w2 W) c => front_str k1 ((hs1.below hb2).more hz2) (by omega) hL1.out W hW c
   have hstr2 := fun W (hW : Below w2.heap.size w2 W) c => front_str k1 hs2 (by omega) hL2.out W hW c
   refine held_start (ops' := apartOps) (l0 := #[false, false, false, false, false, false, false, false, false, false, false, false, false]) (S := (fun w' => Below w2.heap.size w2 w')) (by kernel_rfl) (by kernel_rfl) (by kernel_rfl) (by kernel_rfl) ((Below.refl _ _).drew) (fun R hR => ?_)
   (refine held_take (v := ?_) (d := some 40) 0 (by kernel_rfl) (by kernel_rfl) rfl ?_ ?_
    rotate_left
    · intro w hSw
      conv in opOf _ _ => whnf
      (try dsimp only at hSw)
      go_simp
      try (with_reducible rfl)
    try simp only [Act.put, List.setIfInBounds_toArray, List.set_cons_zero, List.set_cons_succ])
   (refine held_take (v := ?_) (d := some 41) 1 (by kernel_rfl) (by kernel_rfl) rfl ?_ ?_
    rotate_left
    · intro w hSw
      conv in opOf _ _ => whnf
      (try dsimp only at hSw)
      go_simp
      try (with_reducible rfl)
    try simp only [Act.put, List.setIfInBounds_toArray, List.set_cons_zero, List.set_cons_succ])
   (refine held_take (v := ?_) (d := some 42) 2 (by kernel_rfl) (by kernel_rfl) rfl ?_ ?_
    rotate_left
    · intro w hSw
      conv in opOf _ _ => whnf
      (try dsimp only at hSw)
      go_simp
      try (with_reducible rfl)
    try simp only [Act.put, List.setIfInBounds_toArray, List.set_cons_zero, List.set_cons_succ])
   (refine held_take (v := ?_) (d := some 43) 3 (by kernel_rfl) (by kernel_rfl) rfl ?_ ?_
    rotate_left
    · intro w hSw
      conv in opOf _ _ => whnf
      (try dsimp only at hSw)
      go_simp
      try simp only [hstr1 w hSw]
      try (with_reducible rfl)
    try simp only [Act.put, List.setIfInBounds_toArray, List.set_cons_zero, List.set_cons_succ])
   (refine held_take (v := ?_) (d := some 44) 4 (by kernel_rfl) (by kernel_rfl) rfl ?_ ?_
    rotate_left
    · intro w hSw
      conv in opOf _ _ => whnf
      (try dsimp only at hSw)
      go_simp
      try (with_reducible rfl)
    try simp only [Act.put, List.setIfInBounds_toArray, List.set_cons_zero, List.set_cons_succ])
   (refine held_take (v := ?_) (d := some 45) 5 (by kernel_rfl) (by kernel_rfl) rfl ?_ ?_
    rotate_left
    · intro w hSw
      conv in opOf _ _ => whnf
      (try dsimp only at hSw)
      go_simp
      try (with_reducible rfl)
    try simp only [Act.put, List.setIfInBounds_toArray, List.set_cons_zero, List.set_cons_succ])
   (refine held_take (v := ?_) (d := some 46) 6 (by kernel_rfl) (by kernel_rfl) rfl ?_ ?_
    rotate_left
    · intro w hSw
      conv in opOf _ _ => whnf
      (try dsimp only at hSw)
      go_simp
      try (with_reducible rfl)
    try simp only [Act.put, List.setIfInBounds_toArray, List.set_cons_zero, List.set_cons_succ])
   (refine held_take (v := ?_) (d := some 47) 7 (by kernel_rfl) (by kernel_rfl) rfl ?_ ?_
    rotate_left
    · intro w hSw
      conv in opOf _ _ => whnf
      (try dsimp only at hSw)
      go_simp
      try simp only [hstr2 w hSw]
      try (with_reducible rfl)
    try simp only [Act.put, List.setIfInBounds_toArray, List.set_cons_zero, List.set_cons_succ])
   (refine held_take (v := ?_) (d := some 48) 8 (by kernel_rfl) (by kernel_rfl) rfl ?_ ?_
    rotate_left
    · intro w hSw
      conv in opOf _ _ => whnf
      (try dsimp only at hSw)
      go_simp
      try simp only [hL, Bool.not_false]
      try (with_reducible rfl)
    try simp only [Act.put, List.setIfInBounds_toArray, List.set_cons_zero, List.set_cons_succ])
   (refine held_take (v := ?_) (d := some 49) 9 (by kernel_rfl) (by kernel_rfl) rfl ?_ ?_
    rotate_left
    · intro w hSw
      conv in opOf _ _ => whnf
      (try dsimp only at hSw)
      go_simp
      try (with_reducible rfl)
    try simp only [Act.put, List.setIfInBounds_toArray, List.set_cons_zero, List.set_cons_succ])
   (refine held_one 10 (by kernel_rfl) (by kernel_rfl) (held_call (d := some 50) 10 (by kernel_rfl) (by kernel_rfl) rfl (fun hS => known6_any _ (tabHeld hT2 hS)) (by kernel_rfl) (fun w' hS hbb => ⟨hS.trans (hbb.mono hS.size), ?_⟩))
    try simp only [Act.put, List.setIfInBounds_toArray, List.set_cons_zero, List.set_cons_succ])
   (refine held_take (v := ?_) (d := some 51) 11 (by kernel_rfl) (by kernel_rfl) rfl ?_ ?_
    rotate_left
    · intro w hSw
      conv in opOf _ _ => whnf
      (try dsimp only at hSw)
      go_simp
      try (with_reducible rfl)
    try simp only [Act.put, List.setIfInBounds_toArray, List.set_cons_zero, List.set_cons_succ])
   (refine held_take (v := ?_) (d := some 4) 12 (by kernel_rfl) (by kernel_rfl) rfl ?_ ?_
    rotate_left
    · intro w hSw
      conv in opOf _ _ => whnf
      (try dsimp only at hSw)
      go_simp
      try (with_reducible rfl)
    try simp only [Act.put, List.setIfInBounds_toArray, List.set_cons_zero, List.set_cons_succ])
   refine held_done (by kernel_rfl) (fun hS => hR.out _ _ ?_)
   go_wp2_with fail
   go_ret
   exact ⟨rfl, (hB1.trans (hb2.mono (by omega))).trans (hS.mono (by omega))⟩

theorem enc_sl (op a b n f : Int) (w : World) (hT : TabIs 0 w) (hn : -2147483648 ≤ n ∧ n ≤ 2147483647) (h : checkR op a b n f = 0) :
    Calls Tryd.prog 34 #[.agg #[.int .i64 op, .int .i64 a, .int .i64 b, .int .i32 n, .int .i64 f]] w fun e w' => (∃ g o c, e = .returned (.tuple #[.slice (some ⟨g, o, none⟩) (encR op a b n f).length c, .int .i64 0]) ∧ ((encR op a b n f).length : Int) ≤ c ∧ g < w'.heap.size ∧ Sl w' w'.heap.size 1 (some ⟨g, o, none⟩) (encR op a b n f).length (bs (encR op a b n f))) ∧ Below w.heap.size w w' := by
  refine (encode_yes op a b n f w hT hn h).mono ?_
  rintro e w' ⟨A, k, c, rfl, hc, hs, hb⟩
  have hl := hs.len
  rw [bs_length, Nat.mul_one] at hl
  subst hl
  have hp : 0 < (encR op a b n f).length := by rw [encR_length]; omega
  obtain ⟨g, o, rfl, hg, _⟩ := hs.at_ hp
  exact ⟨⟨g, o, c, rfl, by omega, hg, hs⟩, hb⟩
theorem enc_some (op a b n f : Int) (w : World) (hT : TabIs 0 w) (hn : -2147483648 ≤ n ∧ n ≤ 2147483647) :
    Calls Tryd.prog 34 #[.agg #[.int .i64 op, .int .i64 a, .int .i64 b, .int .i32 n, .int .i64 f]] w fun e w' => (∃ A k c, e = .returned (.tuple #[.slice A k c, .int .i64 (checkR op a b n f)])) ∧ Below w.heap.size w w' := by
  by_cases h : checkR op a b n f = 0
  · refine (encode_yes op a b n f w hT hn h).mono ?_
    rintro e w' ⟨A, k, c, rfl, hc, hs, hb⟩
    exact ⟨⟨A, k, c, by rw [h]⟩, hb⟩
  · refine (encode_no op a b n f w hT hn h).mono ?_
    rintro e w' ⟨rfl, hb⟩
    exact ⟨⟨none, 0, 0, rfl⟩, hb⟩
theorem walk (w : World) (i : Ins) (hi : i.Ok) (j : Ins) (hj : j.Ok) (hT : TabIs 0 w) :
    Calls Tryd.prog 11 #[i.val, j.val] w fun e w' => e = .returned (.bool true) ∧ Below w.heap.size w w' := by
  obtain ⟨op, a, b, n, f⟩ := i
  obtain ⟨_, _, _, hn, _⟩ := hi
  obtain ⟨op2, a2, b2, n2, f2⟩ := j
  obtain ⟨_, _, _, hn2, _⟩ := hj
  have hI := fun w hT => enc_some op a b n f w hT hn
  have hJ := fun w hT => enc_some op2 a2 b2 n2 f2 w hT hn2
  by_cases h1 : checkR op a b n f = 0
  · by_cases h2 : checkR op2 a2 b2 n2 f2 = 0
    · by_cases hIJ : op = op2 ∧ a = a2 ∧ b = b2 ∧ n = n2 ∧ f = f2
      · obtain ⟨rfl, rfl, rfl, rfl, rfl⟩ := hIJ
        rw [h1] at hI
        exact same op a b n f op a b n f 0 0 w hT (Lib.hid hI) (Lib.hid hI)
      · have hI' := fun w hT => enc_sl op a b n f w hT hn h1
        have hJ' := fun w hT => enc_sl op2 a2 b2 n2 f2 w hT hn2 h2
        have ha := fun m hm ht => hIJ (encR_apart h1 h2 hn hn2 m hm ht)
        have hp1 : 0 < (encR op a b n f).length := by rw [encR_length]; omega
        have hp2 : 0 < (encR op2 a2 b2 n2 f2).length := by rw [encR_length]; omega
        generalize encR op a b n f = l1 at *
        generalize encR op2 a2 b2 n2 f2 = l2 at *
        by_cases hlt : l2.length < l1.length
        · exact diff_lt op a b n f op2 a2 b2 n2 f2 l1.length l2.length l1 l2 _ _ w hT hIJ hp1 hp2 hlt (by rw [beq_eq_false_iff_ne]; exact ha _ (.inr rfl)) (Lib.hid rfl) (Lib.hid rfl) (Lib.hid hI') (Lib.hid hJ')
        · exact diff_ge op a b n f op2 a2 b2 n2 f2 l1.length l2.length l1 l2 _ _ w hT hIJ hp1 hp2 hlt (by rw [beq_eq_false_iff_ne]; exact ha _ (.inl rfl)) (Lib.hid rfl) (Lib.hid rfl) (Lib.hid hI') (Lib.hid hJ')
    · rw [h1] at hI
      exact bad2 op a b n f op2 a2 b2 n2 f2 0 _ w hT (by simpa using h2) (Lib.hid hI) (Lib.hid hJ)
  · exact bad1 op a b n f op2 a2 b2 n2 f2 _ _ w hT (by simpa using h1) (Lib.hid hI) (Lib.hid hJ)
end Go.Proofs.YtfplkmldleigpaaDoor.encodeApart
