/- Law IsaApart: no two operations share a name, or a first byte; each is found by its name. Conditions: none. -/
import Derived.Test.YtfplkmldleigpaaDoorB11
import Derived.Test.YtfplkmldleigpaaDoorR1
import Derived.Test.YtfplkmldleigpaaDoorW1
namespace Go.Proofs.YtfplkmldleigpaaDoor.isaApart
open Go.RowKit
set_option linter.unusedVariables false
set_option linter.unusedSimpArgs false

theorem tabHeld {P : Prop} {g : Nat} {w0 w1 : World} (hT : TabIs g w0) (h : Below w0.heap.size w0 w1 ∧ P) : TabIs g w1 := hT.grow h.1
noncomputable def apartOps : Array Oper := regOf Tryd.f8.body 19
theorem held2 {w0 w1 w2 : World} {p q : Addr} {a b : Value} (h : Below w0.heap.size w0 w1 ∧ w1.cell? p = some a ∧ w1.cell? q = some b) (hp : p.block < w0.heap.size) (hq : q.block < w0.heap.size) (hb : Below w1.heap.size w1 w2) :
    Below w0.heap.size w0 w2 ∧ w2.cell? p = some a ∧ w2.cell? q = some b := by
  obtain ⟨h1, h2, h3⟩ := h
  have hz := h1.size
  exact ⟨h1.trans (hb.mono hz), (hb.cell (by omega)).trans h2, (hb.cell (by omega)).trans h3⟩

set_option maxHeartbeats 1000000 in
theorem apart_eq (a : Nat) (x y : Int) (na : ByteArray) (la : Int) (w : World) (hT : TabIs 0 w) (ha : (a : Int) < 43)
    (Hop : Hid (∀ w, TabIs 0 w → Calls Tryd.prog 28 #[] w fun e w' => ∃ g c, e = .returned (.slice (some ⟨g, 0, none⟩) 43 c) ∧ (43 ≤ c ∧ w.heap.size ≤ g ∧ g < w'.heap.size) ∧ (w'.cell? ⟨g, a * 3, none⟩ = some (.string na) ∧ w'.cell? ⟨g, a * 3 + 1, none⟩ = some (.int .u8 la)) ∧ Below w.heap.size w w'))
    (Hwa : Hid (∀ w, Calls Tryd.prog 30 #[.int .i64 x, .int .i64 0, .int .i64 42] w fun e w' => e = .returned (.int .i64 a) ∧ w = w'))
    (Hwb : Hid (∀ w, Calls Tryd.prog 30 #[.int .i64 y, .int .i64 0, .int .i64 42] w fun e w' => e = .returned (.int .i64 a) ∧ w = w'))
    (Hfi : Hid (∀ w, TabIs 0 w → Calls Tryd.prog 15 #[.string na] w fun e w' => e = .returned (.tuple #[.int .i64 (a + 1), .bool true]) ∧ Below w.heap.size w w')) :
    Calls Tryd.prog 8 #[.int .i64 x, .int .i64 y] w fun e w' => e = .returned (.bool true) ∧ Below w.heap.size w w' := by
  go_enter Tryd.func8, Tryd.ntmps8
  go_wp2_with (first
      | (go_at_call 28; refine (Hop.out _ hT).mono ?_; rintro e w1 ⟨g, c, rfl, ⟨hc, hg0, hg1⟩, ⟨hna, hla⟩, hb1⟩; have hT1 := hT.grow hb1; have hz1 := hb1.size)
      | (go_at_call 30; (with_reducible refine (Hwa.out _).mono ?_); rintro e w9 ⟨rfl, rfl⟩)
      | (go_at_call 30; (with_reducible refine (Hwb.out _).mono ?_); rintro e w9 ⟨rfl, rfl⟩)
      | (go_at_call 15; refine (Hfi.out _ hT1).mono ?_; rintro e w2 ⟨rfl, hb2⟩; have hT2 := hT1.grow hb2; have hz2 := hb2.size; obtain ⟨hc2, _⟩ := bcell hb2; have hna2 := (hc2 _ _ hg1).trans hna; have hla2 := (hc2 _ _ hg1).trans hla;  have hg2 : g < w2.heap.size := (by omega))
      | (go_at_call 23; refine (known5_any _ hT2).mono ?_; rintro e w8 ⟨rfl, hb8⟩))
  go_ret
  exact ⟨rfl, (hb1.trans (hb2.mono (by omega))).trans (hb8.mono (by omega))⟩

set_option maxHeartbeats 1000000 in
theorem apart_000 (a b : Nat) (x y : Int) (na nb : ByteArray) (la lb : Int) (w : World) (hT : TabIs 0 w) (ha : (a : Int) < 43) (hb : (b : Int) < 43) (hab : ¬ a = b) (hla : 0 ≤ la ∧ la ≤ 255) (hlb : 0 ≤ lb ∧ lb ≤ 255)
    (hN : (na.toList == nb.toList) = false) (hX : decide (la < lb) = false) (hY : decide (lb < la) = true)
    (Hop : Hid (∀ w, TabIs 0 w → Calls Tryd.prog 28 #[] w fun e w' => ∃ g c, e = .returned (.slice (some ⟨g, 0, none⟩) 43 c) ∧ (43 ≤ c ∧ w.heap.size ≤ g ∧ g < w'.heap.size) ∧ (w'.cell? ⟨g, a * 3, none⟩ = some (.string na) ∧ w'.cell? ⟨g, a * 3 + 1, none⟩ = some (.int .u8 la) ∧
      w'.cell? ⟨g, b * 3, none⟩ = some (.string nb) ∧ w'.cell? ⟨g, b * 3 + 1, none⟩ = some (.int .u8 lb)) ∧ Below w.heap.size w w'))
    (Hwa : Hid (∀ w, Calls Tryd.prog 30 #[.int .i64 x, .int .i64 0, .int .i64 42] w fun e w' => e = .returned (.int .i64 a) ∧ w = w'))
    (Hwb : Hid (∀ w, Calls Tryd.prog 30 #[.int .i64 y, .int .i64 0, .int .i64 42] w fun e w' => e = .returned (.int .i64 b) ∧ w = w'))
    (Hfi : Hid (∀ w, TabIs 0 w → Calls Tryd.prog 15 #[.string na] w fun e w' => e = .returned (.tuple #[.int .i64 (a + 1), .bool true]) ∧ Below w.heap.size w w'))
    (Hsa : Hid (∀ w, TabIs 0 w → Calls Tryd.prog 19 #[.int .i64 (a + 1)] w fun e w' => e = .returned (.bool false) ∧ Below w.heap.size w w'))
    (Hsb : Hid (∀ w, TabIs 0 w → Calls Tryd.prog 19 #[.int .i64 (b + 1)] w fun e w' => e = .returned (.bool false) ∧ Below w.heap.size w w')) :
    Calls Tryd.prog 8 #[.int .i64 x, .int .i64 y] w fun e w' => e = .returned (.bool true) ∧ Below w.heap.size w w' := by
  obtain ⟨hla0, hla1⟩ := hla
  obtain ⟨hlb0, hlb1⟩ := hlb
  go_enter Tryd.func8, Tryd.ntmps8
  go_wp2_with (first
      | (go_at_call 28; refine (Hop.out _ hT).mono ?_; rintro e w1 ⟨g, c, rfl, ⟨hc, hg0, hg1⟩, ⟨hna, hla, hnb, hlb⟩, hb1⟩; have hT1 := hT.grow hb1; have hz1 := hb1.size)
      | (go_at_call 30; (with_reducible refine (Hwa.out _).mono ?_); rintro e w9 ⟨rfl, rfl⟩)
      | (go_at_call 30; (with_reducible refine (Hwb.out _).mono ?_); rintro e w9 ⟨rfl, rfl⟩)
      | (go_at_call 15; refine (Hfi.out _ hT1).mono ?_; rintro e w2 ⟨rfl, hb2⟩; have hT2 := hT1.grow hb2; have hz2 := hb2.size; obtain ⟨hc2, _⟩ := bcell hb2; have hna2 := (hc2 _ _ hg1).trans hna; have hla2 := (hc2 _ _ hg1).trans hla; have hnb2 := (hc2 _ _ hg1).trans hnb; have hlb2 := (hc2 _ _ hg1).trans hlb; have hg2 : g < w2.heap.size := (by omega))
      | (go_at_call 19; (with_reducible refine (Hsa.out _ hT2).mono ?_); rintro e w3 ⟨rfl, hb3⟩; have hT3 := hT2.grow hb3; have hz3 := hb3.size; obtain ⟨hc3, _⟩ := bcell hb3; have hna3 := (hc3 _ _ hg2).trans hna2; have hnb3 := (hc3 _ _ hg2).trans hnb2; have hlb3 := (hc3 _ _ hg2).trans hlb2; have hg3 : g < w3.heap.size := (by omega))
      | (go_at_call 19; (with_reducible refine (Hsb.out _ hT3).mono ?_); rintro e w4 ⟨rfl, hb4⟩; have hT4 := hT3.grow hb4; have hz4 := hb4.size; obtain ⟨hc4, _⟩ := bcell hb4; have hna4 := (hc4 _ _ hg3).trans hna3; have hnb4 := (hc4 _ _ hg3).trans hnb3; have hg4 : g < w4.heap.size := (by omega)))
  all_goals
      refine held_start (ops' := apartOps) (l0 := #[false, false, false, false, false, false, false, false, false, false, false, false, false, false, false, false, false, false, false, false, false, false, false, false, false]) (S := (fun w' => Below w4.heap.size w4 w' ∧ w'.cell? ⟨g, a * 3, none⟩ = some (.string na) ∧ w'.cell? ⟨g, b * 3, none⟩ = some (.string nb))) (by kernel_rfl) (by kernel_rfl) (by kernel_rfl) (by kernel_rfl) ⟨(Below.refl _ _).drew, hna4, hnb4⟩ (fun R hR => ?_)
      (refine held_take (v := ?_) (d := some 71) 0 (by kernel_rfl) (by kernel_rfl) rfl ?_ ?_
       rotate_left
       · intro w hSw
         conv in opOf _ _ => whnf
         (try dsimp only at hSw)
         go_simp
         try (with_reducible rfl)
       try simp only [Act.put, List.setIfInBounds_toArray, List.set_cons_zero, List.set_cons_succ])
      (refine held_take (v := ?_) (d := some 72) 1 (by kernel_rfl) (by kernel_rfl) rfl ?_ ?_
       rotate_left
       · intro w hSw
         conv in opOf _ _ => whnf
         (try dsimp only at hSw)
         go_simp
         try (with_reducible rfl)
       try simp only [Act.put, List.setIfInBounds_toArray, List.set_cons_zero, List.set_cons_succ])
      (refine held_take (v := ?_) (d := some 73) 2 (by kernel_rfl) (by kernel_rfl) rfl ?_ ?_
       rotate_left
       · intro w hSw
         conv in opOf _ _ => whnf
         (try dsimp only at hSw)
         go_simp
         try (with_reducible rfl)
       try simp only [Act.put, List.setIfInBounds_toArray, List.set_cons_zero, List.set_cons_succ])
      (refine held_take (v := ?_) (d := some 74) 3 (by kernel_rfl) (by kernel_rfl) rfl ?_ ?_
       rotate_left
       · intro w hSw
         conv in opOf _ _ => whnf
         (try dsimp only at hSw)
         go_simp
         try (with_reducible rfl)
       try simp only [Act.put, List.setIfInBounds_toArray, List.set_cons_zero, List.set_cons_succ])
      (refine held_take (v := ?_) (d := some 75) 4 (by kernel_rfl) (by kernel_rfl) rfl ?_ ?_
       rotate_left
       · intro w hSw
         conv in opOf _ _ => whnf
         (try dsimp only at hSw)
         go_simp
         try (with_reducible rfl)
       try simp only [Act.put, List.setIfInBounds_toArray, List.set_cons_zero, List.set_cons_succ])
      (refine held_take (v := ?_) (d := some 76) 5 (by kernel_rfl) (by kernel_rfl) rfl ?_ ?_
       rotate_left
       · intro w hSw
         conv in opOf _ _ => whnf
         (try dsimp only at hSw)
         go_simp
         try (with_reducible rfl)
       try simp only [Act.put, List.setIfInBounds_toArray, List.set_cons_zero, List.set_cons_succ])
      (refine held_take (v := ?_) (d := some 77) 6 (by kernel_rfl) (by kernel_rfl) rfl ?_ ?_
       rotate_left
       · intro w hSw
         conv in opOf _ _ => whnf
         (try dsimp only at hSw)
         go_simp
         try (with_reducible rfl)
       try simp only [Act.put, List.setIfInBounds_toArray, List.set_cons_zero, List.set_cons_succ])
      (refine held_take (v := ?_) (d := some 78) 7 (by kernel_rfl) (by kernel_rfl) rfl ?_ ?_
       rotate_left
       · intro w hSw
         conv in opOf _ _ => whnf
         (try dsimp only at hSw)
         go_simp
         try (with_reducible rfl)
       try simp only [Act.put, List.setIfInBounds_toArray, List.set_cons_zero, List.set_cons_succ])
      (refine held_take (v := ?_) (d := some 79) 8 (by kernel_rfl) (by kernel_rfl) rfl ?_ ?_
       rotate_left
       · intro w hSw
         conv in opOf _ _ => whnf
         (try dsimp only at hSw)
         go_simp
         try (with_reducible rfl)
       try simp only [Act.put, List.setIfInBounds_toArray, List.set_cons_zero, List.set_cons_succ])
      (refine held_take (v := ?_) (d := some 80) 9 (by kernel_rfl) (by kernel_rfl) rfl ?_ ?_
       rotate_left
       · intro w hSw
         conv in opOf _ _ => whnf
         (try dsimp only at hSw)
         go_simp
         try (with_reducible rfl)
       try simp only [Act.put, List.setIfInBounds_toArray, List.set_cons_zero, List.set_cons_succ])
      (refine held_take (v := ?_) (d := some 81) 10 (by kernel_rfl) (by kernel_rfl) rfl ?_ ?_
       rotate_left
       · intro w hSw
         conv in opOf _ _ => whnf
         (try dsimp only at hSw)
         go_simp
         try simp only [hN, Bool.not_false]
         try (with_reducible rfl)
       try simp only [Act.put, List.setIfInBounds_toArray, List.set_cons_zero, List.set_cons_succ])
      (refine held_take (v := ?_) (d := some 82) 11 (by kernel_rfl) (by kernel_rfl) rfl ?_ ?_
       rotate_left
       · intro w hSw
         conv in opOf _ _ => whnf
         (try dsimp only at hSw)
         go_simp
         try (with_reducible rfl)
       try simp only [Act.put, List.setIfInBounds_toArray, List.set_cons_zero, List.set_cons_succ])
      (refine held_take (v := ?_) (d := some 83) 12 (by kernel_rfl) (by kernel_rfl) rfl ?_ ?_
       rotate_left
       · intro w hSw
         conv in opOf _ _ => whnf
         (try dsimp only at hSw)
         go_simp
         try (with_reducible rfl)
       try simp only [Act.put, List.setIfInBounds_toArray, List.set_cons_zero, List.set_cons_succ])
      (refine held_take (v := ?_) (d := some 84) 13 (by kernel_rfl) (by kernel_rfl) rfl ?_ ?_
       rotate_left
       · intro w hSw
         conv in opOf _ _ => whnf
         (try dsimp only at hSw)
         go_simp
         try (with_reducible rfl)
       try simp only [Act.put, List.setIfInBounds_toArray, List.set_cons_zero, List.set_cons_succ])
      (refine held_take (v := ?_) (d := some 85) 14 (by kernel_rfl) (by kernel_rfl) rfl ?_ ?_
       rotate_left
       · intro w hSw
         conv in opOf _ _ => whnf
         (try dsimp only at hSw)
         go_simp
         try simp only [hX]
         try (with_reducible rfl)
       try simp only [Act.put, List.setIfInBounds_toArray, List.set_cons_zero, List.set_cons_succ])
      (refine held_take (v := ?_) (d := some 86) 15 (by kernel_rfl) (by kernel_rfl) rfl ?_ ?_
       rotate_left
       · intro w hSw
         conv in opOf _ _ => whnf
         (try dsimp only at hSw)
         go_simp
         try (with_reducible rfl)
       try simp only [Act.put, List.setIfInBounds_toArray, List.set_cons_zero, List.set_cons_succ])
      (refine held_take (v := ?_) (d := some 87) 16 (by kernel_rfl) (by kernel_rfl) rfl ?_ ?_
       rotate_left
       · intro w hSw
         conv in opOf _ _ => whnf
         (try dsimp only at hSw)
         go_simp
         try (with_reducible rfl)
       try simp only [Act.put, List.setIfInBounds_toArray, List.set_cons_zero, List.set_cons_succ])
      (refine held_take (v := ?_) (d := some 88) 17 (by kernel_rfl) (by kernel_rfl) rfl ?_ ?_
       rotate_left
       · intro w hSw
         conv in opOf _ _ => whnf
         (try dsimp only at hSw)
         go_simp
         try (with_reducible rfl)
       try simp only [Act.put, List.setIfInBounds_toArray, List.set_cons_zero, List.set_cons_succ])
      (refine held_take (v := ?_) (d := some 89) 18 (by kernel_rfl) (by kernel_rfl) rfl ?_ ?_
       rotate_left
       · intro w hSw
         conv in opOf _ _ => whnf
         (try dsimp only at hSw)
         go_simp
         try simp only [hY]
         try (with_reducible rfl)
       try simp only [Act.put, List.setIfInBounds_toArray, List.set_cons_zero, List.set_cons_succ])
      (refine held_take (v := ?_) (d := some 90) 19 (by kernel_rfl) (by kernel_rfl) rfl ?_ ?_
       rotate_left
       · intro w hSw
         conv in opOf _ _ => whnf
         (try dsimp only at hSw)
         go_simp
         try (with_reducible rfl)
       try simp only [Act.put, List.setIfInBounds_toArray, List.set_cons_zero, List.set_cons_succ])
      (refine held_take (v := ?_) (d := some 91) 20 (by kernel_rfl) (by kernel_rfl) rfl ?_ ?_
       rotate_left
       · intro w hSw
         conv in opOf _ _ => whnf
         (try dsimp only at hSw)
         go_simp
         try (with_reducible rfl)
       try simp only [Act.put, List.setIfInBounds_toArray, List.set_cons_zero, List.set_cons_succ])
      (refine held_take (v := ?_) (d := some 92) 21 (by kernel_rfl) (by kernel_rfl) rfl ?_ ?_
       rotate_left
       · intro w hSw
         conv in opOf _ _ => whnf
         (try dsimp only at hSw)
         go_simp
         try (with_reducible rfl)
       try simp only [Act.put, List.setIfInBounds_toArray, List.set_cons_zero, List.set_cons_succ])
      (refine held_one 22 (by kernel_rfl) (by kernel_rfl) (held_call (d := some 93) 22 (by kernel_rfl) (by kernel_rfl) rfl (fun hS => known5_any _ (tabHeld hT4 hS)) (by kernel_rfl) (fun w' hS hbb => ⟨held2 hS hg4 hg4 hbb, ?_⟩))
       try simp only [Act.put, List.setIfInBounds_toArray, List.set_cons_zero, List.set_cons_succ])
      (refine held_take (v := ?_) (d := some 94) 23 (by kernel_rfl) (by kernel_rfl) rfl ?_ ?_
       rotate_left
       · intro w hSw
         conv in opOf _ _ => whnf
         (try dsimp only at hSw)
         go_simp
         try (with_reducible rfl)
       try simp only [Act.put, List.setIfInBounds_toArray, List.set_cons_zero, List.set_cons_succ])
      (refine held_take (v := ?_) (d := some 4) 24 (by kernel_rfl) (by kernel_rfl) rfl ?_ ?_
       rotate_left
       · intro w hSw
         conv in opOf _ _ => whnf
         (try dsimp only at hSw)
         go_simp
         try (with_reducible rfl)
       try simp only [Act.put, List.setIfInBounds_toArray, List.set_cons_zero, List.set_cons_succ])
      refine held_done (by kernel_rfl) (fun hS => hR.out _ _ ?_)
      obtain ⟨hB5, _⟩ := hS
      go_wp2_with fail
      go_ret
      exact ⟨rfl, (((hb1.trans (hb2.mono (by omega))).trans (hb3.mono (by omega))).trans (hb4.mono (by omega))).trans (hB5.mono (by omega))⟩

set_option maxHeartbeats 1000000 in
theorem apart_001 (a b : Nat) (x y : Int) (na nb : ByteArray) (la lb : Int) (w : World) (hT : TabIs 0 w) (ha : (a : Int) < 43) (hb : (b : Int) < 43) (hab : ¬ a = b) (hla : 0 ≤ la ∧ la ≤ 255) (hlb : 0 ≤ lb ∧ lb ≤ 255)
    (hN : (na.toList == nb.toList) = false) (hX : decide (la < lb) = true) 
    (Hop : Hid (∀ w, TabIs 0 w → Calls Tryd.prog 28 #[] w fun e w' => ∃ g c, e = .returned (.slice (some ⟨g, 0, none⟩) 43 c) ∧ (43 ≤ c ∧ w.heap.size ≤ g ∧ g < w'.heap.size) ∧ (w'.cell? ⟨g, a * 3, none⟩ = some (.string na) ∧ w'.cell? ⟨g, a * 3 + 1, none⟩ = some (.int .u8 la) ∧
      w'.cell? ⟨g, b * 3, none⟩ = some (.string nb) ∧ w'.cell? ⟨g, b * 3 + 1, none⟩ = some (.int .u8 lb)) ∧ Below w.heap.size w w'))
    (Hwa : Hid (∀ w, Calls Tryd.prog 30 #[.int .i64 x, .int .i64 0, .int .i64 42] w fun e w' => e = .returned (.int .i64 a) ∧ w = w'))
    (Hwb : Hid (∀ w, Calls Tryd.prog 30 #[.int .i64 y, .int .i64 0, .int .i64 42] w fun e w' => e = .returned (.int .i64 b) ∧ w = w'))
    (Hfi : Hid (∀ w, TabIs 0 w → Calls Tryd.prog 15 #[.string na] w fun e w' => e = .returned (.tuple #[.int .i64 (a + 1), .bool true]) ∧ Below w.heap.size w w'))
    (Hsa : Hid (∀ w, TabIs 0 w → Calls Tryd.prog 19 #[.int .i64 (a + 1)] w fun e w' => e = .returned (.bool false) ∧ Below w.heap.size w w'))
    (Hsb : Hid (∀ w, TabIs 0 w → Calls Tryd.prog 19 #[.int .i64 (b + 1)] w fun e w' => e = .returned (.bool false) ∧ Below w.heap.size w w')) :
    Calls Tryd.prog 8 #[.int .i64 x, .int .i64 y] w fun e w' => e = .returned (.bool true) ∧ Below w.heap.size w w' := by
  obtain ⟨hla0, hla1⟩ := hla
  obtain ⟨hlb0, hlb1⟩ := hlb
  go_enter Tryd.func8, Tryd.ntmps8
  go_wp2_with (first
      | (go_at_call 28; refine (Hop.out _ hT).mono ?_; rintro e w1 ⟨g, c, rfl, ⟨hc, hg0, hg1⟩, ⟨hna, hla, hnb, hlb⟩, hb1⟩; have hT1 := hT.grow hb1; have hz1 := hb1.size)
      | (go_at_call 30; (with_reducible refine (Hwa.out _).mono ?_); rintro e w9 ⟨rfl, rfl⟩)
      | (go_at_call 30; (with_reducible refine (Hwb.out _).mono ?_); rintro e w9 ⟨rfl, rfl⟩)
      | (go_at_call 15; refine (Hfi.out _ hT1).mono ?_; rintro e w2 ⟨rfl, hb2⟩; have hT2 := hT1.grow hb2; have hz2 := hb2.size; obtain ⟨hc2, _⟩ := bcell hb2; have hna2 := (hc2 _ _ hg1).trans hna; have hla2 := (hc2 _ _ hg1).trans hla; have hnb2 := (hc2 _ _ hg1).trans hnb; have hlb2 := (hc2 _ _ hg1).trans hlb; have hg2 : g < w2.heap.size := (by omega))
      | (go_at_call 19; (with_reducible refine (Hsa.out _ hT2).mono ?_); rintro e w3 ⟨rfl, hb3⟩; have hT3 := hT2.grow hb3; have hz3 := hb3.size; obtain ⟨hc3, _⟩ := bcell hb3; have hna3 := (hc3 _ _ hg2).trans hna2; have hnb3 := (hc3 _ _ hg2).trans hnb2; have hlb3 := (hc3 _ _ hg2).trans hlb2; have hg3 : g < w3.heap.size := (by omega))
      | (go_at_call 19; (with_reducible refine (Hsb.out _ hT3).mono ?_); rintro e w4 ⟨rfl, hb4⟩; have hT4 := hT3.grow hb4; have hz4 := hb4.size; obtain ⟨hc4, _⟩ := bcell hb4; have hna4 := (hc4 _ _ hg3).trans hna3; have hnb4 := (hc4 _ _ hg3).trans hnb3; have hg4 : g < w4.heap.size := (by omega)))
  all_goals
      refine held_start (ops' := apartOps) (l0 := #[false, false, false, false, false, false, false, false, false, false, false, false, false, false, false, false, false, false, false, false, false, false, false, false, false]) (S := (fun w' => Below w4.heap.size w4 w' ∧ w'.cell? ⟨g, a * 3, none⟩ = some (.string na) ∧ w'.cell? ⟨g, b * 3, none⟩ = some (.string nb))) (by kernel_rfl) (by kernel_rfl) (by kernel_rfl) (by kernel_rfl) ⟨(Below.refl _ _).drew, hna4, hnb4⟩ (fun R hR => ?_)
      (refine held_take (v := ?_) (d := some 71) 0 (by kernel_rfl) (by kernel_rfl) rfl ?_ ?_
       rotate_left
       · intro w hSw
         conv in opOf _ _ => whnf
         (try dsimp only at hSw)
         go_simp
         try (with_reducible rfl)
       try simp only [Act.put, List.setIfInBounds_toArray, List.set_cons_zero, List.set_cons_succ])
      (refine held_take (v := ?_) (d := some 72) 1 (by kernel_rfl) (by kernel_rfl) rfl ?_ ?_
       rotate_left
       · intro w hSw
         conv in opOf _ _ => whnf
         (try dsimp only at hSw)
         go_simp
         try (with_reducible rfl)
       try simp only [Act.put, List.setIfInBounds_toArray, List.set_cons_zero, List.set_cons_succ])
      (refine held_take (v := ?_) (d := some 73) 2 (by kernel_rfl) (by kernel_rfl) rfl ?_ ?_
       rotate_left
       · intro w hSw
         conv in opOf _ _ => whnf
         (try dsimp only at hSw)
         go_simp
         try (with_reducible rfl)
       try simp only [Act.put, List.setIfInBounds_toArray, List.set_cons_zero, List.set_cons_succ])
      (refine held_take (v := ?_) (d := some 74) 3 (by kernel_rfl) (by kernel_rfl) rfl ?_ ?_
       rotate_left
       · intro w hSw
         conv in opOf _ _ => whnf
         (try dsimp only at hSw)
         go_simp
         try (with_reducible rfl)
       try simp only [Act.put, List.setIfInBounds_toArray, List.set_cons_zero, List.set_cons_succ])
      (refine held_take (v := ?_) (d := some 75) 4 (by kernel_rfl) (by kernel_rfl) rfl ?_ ?_
       rotate_left
       · intro w hSw
         conv in opOf _ _ => whnf
         (try dsimp only at hSw)
         go_simp
         try (with_reducible rfl)
       try simp only [Act.put, List.setIfInBounds_toArray, List.set_cons_zero, List.set_cons_succ])
      (refine held_take (v := ?_) (d := some 76) 5 (by kernel_rfl) (by kernel_rfl) rfl ?_ ?_
       rotate_left
       · intro w hSw
         conv in opOf _ _ => whnf
         (try dsimp only at hSw)
         go_simp
         try (with_reducible rfl)
       try simp only [Act.put, List.setIfInBounds_toArray, List.set_cons_zero, List.set_cons_succ])
      (refine held_take (v := ?_) (d := some 77) 6 (by kernel_rfl) (by kernel_rfl) rfl ?_ ?_
       rotate_left
       · intro w hSw
         conv in opOf _ _ => whnf
         (try dsimp only at hSw)
         go_simp
         try (with_reducible rfl)
       try simp only [Act.put, List.setIfInBounds_toArray, List.set_cons_zero, List.set_cons_succ])
      (refine held_take (v := ?_) (d := some 78) 7 (by kernel_rfl) (by kernel_rfl) rfl ?_ ?_
       rotate_left
       · intro w hSw
         conv in opOf _ _ => whnf
         (try dsimp only at hSw)
         go_simp
         try (with_reducible rfl)
       try simp only [Act.put, List.setIfInBounds_toArray, List.set_cons_zero, List.set_cons_succ])
      (refine held_take (v := ?_) (d := some 79) 8 (by kernel_rfl) (by kernel_rfl) rfl ?_ ?_
       rotate_left
       · intro w hSw
         conv in opOf _ _ => whnf
         (try dsimp only at hSw)
         go_simp
         try (with_reducible rfl)
       try simp only [Act.put, List.setIfInBounds_toArray, List.set_cons_zero, List.set_cons_succ])
      (refine held_take (v := ?_) (d := some 80) 9 (by kernel_rfl) (by kernel_rfl) rfl ?_ ?_
       rotate_left
       · intro w hSw
         conv in opOf _ _ => whnf
         (try dsimp only at hSw)
         go_simp
         try (with_reducible rfl)
       try simp only [Act.put, List.setIfInBounds_toArray, List.set_cons_zero, List.set_cons_succ])
      (refine held_take (v := ?_) (d := some 81) 10 (by kernel_rfl) (by kernel_rfl) rfl ?_ ?_
       rotate_left
       · intro w hSw
         conv in opOf _ _ => whnf
         (try dsimp only at hSw)
         go_simp
         try simp only [hN, Bool.not_false]
         try (with_reducible rfl)
       try simp only [Act.put, List.setIfInBounds_toArray, List.set_cons_zero, List.set_cons_succ])
      (refine held_take (v := ?_) (d := some 82) 11 (by kernel_rfl) (by kernel_rfl) rfl ?_ ?_
       rotate_left
       · intro w hSw
         conv in opOf _ _ => whnf
         (try dsimp only at hSw)
         go_simp
         try (with_reducible rfl)
       try simp only [Act.put, List.setIfInBounds_toArray, List.set_cons_zero, List.set_cons_succ])
      (refine held_take (v := ?_) (d := some 83) 12 (by kernel_rfl) (by kernel_rfl) rfl ?_ ?_
       rotate_left
       · intro w hSw
         conv in opOf _ _ => whnf
         (try dsimp only at hSw)
         go_simp
         try (with_reducible rfl)
       try simp only [Act.put, List.setIfInBounds_toArray, List.set_cons_zero, List.set_cons_succ])
      (refine held_take (v := ?_) (d := some 84) 13 (by kernel_rfl) (by kernel_rfl) rfl ?_ ?_
       rotate_left
       · intro w hSw
         conv in opOf _ _ => whnf
         (try dsimp only at hSw)
         go_simp
         try (with_reducible rfl)
       try simp only [Act.put, List.setIfInBounds_toArray, List.set_cons_zero, List.set_cons_succ])
      (refine held_take (v := ?_) (d := some 85) 14 (by kernel_rfl) (by kernel_rfl) rfl ?_ ?_
       rotate_left
       · intro w hSw
         conv in opOf _ _ => whnf
         (try dsimp only at hSw)
         go_simp
         try simp only [hX]
         try (with_reducible rfl)
       try simp only [Act.put, List.setIfInBounds_toArray, List.set_cons_zero, List.set_cons_succ])
      (refine held_take (v := ?_) (d := some 86) 15 (by kernel_rfl) (by kernel_rfl) rfl ?_ ?_
       rotate_left
       · intro w hSw
         conv in opOf _ _ => whnf
         (try dsimp only at hSw)
         go_simp
         try (with_reducible rfl)
       try simp only [Act.put, List.setIfInBounds_toArray, List.set_cons_zero, List.set_cons_succ])
      (refine held_skip (d := some 87) 16 (by kernel_rfl) (by kernel_rfl) rfl ?_
       try simp only [Act.put, List.setIfInBounds_toArray, List.set_cons_zero, List.set_cons_succ])
      (refine held_skip (d := some 88) 17 (by kernel_rfl) (by kernel_rfl) rfl ?_
       try simp only [Act.put, List.setIfInBounds_toArray, List.set_cons_zero, List.set_cons_succ])
      (refine held_skip (d := some 89) 18 (by kernel_rfl) (by kernel_rfl) rfl ?_
       try simp only [Act.put, List.setIfInBounds_toArray, List.set_cons_zero, List.set_cons_succ])
      (refine held_take (v := ?_) (d := some 90) 19 (by kernel_rfl) (by kernel_rfl) rfl ?_ ?_
       rotate_left
       · intro w hSw
         conv in opOf _ _ => whnf
         (try dsimp only at hSw)
         go_simp
         try (with_reducible rfl)
       try simp only [Act.put, List.setIfInBounds_toArray, List.set_cons_zero, List.set_cons_succ])
      (refine held_take (v := ?_) (d := some 91) 20 (by kernel_rfl) (by kernel_rfl) rfl ?_ ?_
       rotate_left
       · intro w hSw
         conv in opOf _ _ => whnf
         (try dsimp only at hSw)
         go_simp
         try (with_reducible rfl)
       try simp only [Act.put, List.setIfInBounds_toArray, List.set_cons_zero, List.set_cons_succ])
      (refine held_take (v := ?_) (d := some 92) 21 (by kernel_rfl) (by kernel_rfl) rfl ?_ ?_
       rotate_left
       · intro w hSw
         conv in opOf _ _ => whnf
         (try dsimp only at hSw)
         go_simp
         try (with_reducible rfl)
       try simp only [Act.put, List.setIfInBounds_toArray, List.set_cons_zero, List.set_cons_succ])
      (refine held_one 22 (by kernel_rfl) (by kernel_rfl) (held_call (d := some 93) 22 (by kernel_rfl) (by kernel_rfl) rfl (fun hS => known5_any _ (tabHeld hT4 hS)) (by kernel_rfl) (fun w' hS hbb => ⟨held2 hS hg4 hg4 hbb, ?_⟩))
       try simp only [Act.put, List.setIfInBounds_toArray, List.set_cons_zero, List.set_cons_succ])
      (refine held_take (v := ?_) (d := some 94) 23 (by kernel_rfl) (by kernel_rfl) rfl ?_ ?_
       rotate_left
       · intro w hSw
         conv in opOf _ _ => whnf
         (try dsimp only at hSw)
         go_simp
         try (with_reducible rfl)
       try simp only [Act.put, List.setIfInBounds_toArray, List.set_cons_zero, List.set_cons_succ])
      (refine held_take (v := ?_) (d := some 4) 24 (by kernel_rfl) (by kernel_rfl) rfl ?_ ?_
       rotate_left
       · intro w hSw
         conv in opOf _ _ => whnf
         (try dsimp only at hSw)
         go_simp
         try (with_reducible rfl)
       try simp only [Act.put, List.setIfInBounds_toArray, List.set_cons_zero, List.set_cons_succ])
      refine held_done (by kernel_rfl) (fun hS => hR.out _ _ ?_)
      obtain ⟨hB5, _⟩ := hS
      go_wp2_with fail
      go_ret
      exact ⟨rfl, (((hb1.trans (hb2.mono (by omega))).trans (hb3.mono (by omega))).trans (hb4.mono (by omega))).trans (hB5.mono (by omega))⟩

set_option maxHeartbeats 1000000 in
theorem apart_010 (a b : Nat) (x y : Int) (na nb : ByteArray) (la lb : Int) (w : World) (hT : TabIs 0 w) (ha : (a : Int) < 43) (hb : (b : Int) < 43) (hab : ¬ a = b) (hla : 0 ≤ la ∧ la ≤ 255) (hlb : 0 ≤ lb ∧ lb ≤ 255)
    (hN : (na.toList == nb.toList) = false) (hX : decide (la < lb) = false) (hY : decide (lb + 2 < la) = true)
    (Hop : Hid (∀ w, TabIs 0 w → Calls Tryd.prog 28 #[] w fun e w' => ∃ g c, e = .returned (.slice (some ⟨g, 0, none⟩) 43 c) ∧ (43 ≤ c ∧ w.heap.size ≤ g ∧ g < w'.heap.size) ∧ (w'.cell? ⟨g, a * 3, none⟩ = some (.string na) ∧ w'.cell? ⟨g, a * 3 + 1, none⟩ = some (.int .u8 la) ∧
      w'.cell? ⟨g, b * 3, none⟩ = some (.string nb) ∧ w'.cell? ⟨g, b * 3 + 1, none⟩ = some (.int .u8 lb)) ∧ Below w.heap.size w w'))
    (Hwa : Hid (∀ w, Calls Tryd.prog 30 #[.int .i64 x, .int .i64 0, .int .i64 42] w fun e w' => e = .returned (.int .i64 a) ∧ w = w'))
    (Hwb : Hid (∀ w, Calls Tryd.prog 30 #[.int .i64 y, .int .i64 0, .int .i64 42] w fun e w' => e = .returned (.int .i64 b) ∧ w = w'))
    (Hfi : Hid (∀ w, TabIs 0 w → Calls Tryd.prog 15 #[.string na] w fun e w' => e = .returned (.tuple #[.int .i64 (a + 1), .bool true]) ∧ Below w.heap.size w w'))
    (Hsa : Hid (∀ w, TabIs 0 w → Calls Tryd.prog 19 #[.int .i64 (a + 1)] w fun e w' => e = .returned (.bool false) ∧ Below w.heap.size w w'))
    (Hsb : Hid (∀ w, TabIs 0 w → Calls Tryd.prog 19 #[.int .i64 (b + 1)] w fun e w' => e = .returned (.bool true) ∧ Below w.heap.size w w')) :
    Calls Tryd.prog 8 #[.int .i64 x, .int .i64 y] w fun e w' => e = .returned (.bool true) ∧ Below w.heap.size w w' := by
  obtain ⟨hla0, hla1⟩ := hla
  obtain ⟨hlb0, hlb1⟩ := hlb
  go_enter Tryd.func8, Tryd.ntmps8
  go_wp2_with (first
      | (go_at_call 28; refine (Hop.out _ hT).mono ?_; rintro e w1 ⟨g, c, rfl, ⟨hc, hg0, hg1⟩, ⟨hna, hla, hnb, hlb⟩, hb1⟩; have hT1 := hT.grow hb1; have hz1 := hb1.size)
      | (go_at_call 30; (with_reducible refine (Hwa.out _).mono ?_); rintro e w9 ⟨rfl, rfl⟩)
      | (go_at_call 30; (with_reducible refine (Hwb.out _).mono ?_); rintro e w9 ⟨rfl, rfl⟩)
      | (go_at_call 15; refine (Hfi.out _ hT1).mono ?_; rintro e w2 ⟨rfl, hb2⟩; have hT2 := hT1.grow hb2; have hz2 := hb2.size; obtain ⟨hc2, _⟩ := bcell hb2; have hna2 := (hc2 _ _ hg1).trans hna; have hla2 := (hc2 _ _ hg1).trans hla; have hnb2 := (hc2 _ _ hg1).trans hnb; have hlb2 := (hc2 _ _ hg1).trans hlb; have hg2 : g < w2.heap.size := (by omega))
      | (go_at_call 19; (with_reducible refine (Hsa.out _ hT2).mono ?_); rintro e w3 ⟨rfl, hb3⟩; have hT3 := hT2.grow hb3; have hz3 := hb3.size; obtain ⟨hc3, _⟩ := bcell hb3; have hna3 := (hc3 _ _ hg2).trans hna2; have hnb3 := (hc3 _ _ hg2).trans hnb2; have hlb3 := (hc3 _ _ hg2).trans hlb2; have hg3 : g < w3.heap.size := (by omega))
      | (go_at_call 19; (with_reducible refine (Hsb.out _ hT3).mono ?_); rintro e w4 ⟨rfl, hb4⟩; have hT4 := hT3.grow hb4; have hz4 := hb4.size; obtain ⟨hc4, _⟩ := bcell hb4; have hna4 := (hc4 _ _ hg3).trans hna3; have hnb4 := (hc4 _ _ hg3).trans hnb3; have hg4 : g < w4.heap.size := (by omega)))
  all_goals
      refine held_start (ops' := apartOps) (l0 := #[false, false, false, false, false, false, false, false, false, false, false, false, false, false, false, false, false, false, false, false, false, false, false, false, false]) (S := (fun w' => Below w4.heap.size w4 w' ∧ w'.cell? ⟨g, a * 3, none⟩ = some (.string na) ∧ w'.cell? ⟨g, b * 3, none⟩ = some (.string nb))) (by kernel_rfl) (by kernel_rfl) (by kernel_rfl) (by kernel_rfl) ⟨(Below.refl _ _).drew, hna4, hnb4⟩ (fun R hR => ?_)
      (refine held_take (v := ?_) (d := some 71) 0 (by kernel_rfl) (by kernel_rfl) rfl ?_ ?_
       rotate_left
       · intro w hSw
         conv in opOf _ _ => whnf
         (try dsimp only at hSw)
         go_simp
         try (with_reducible rfl)
       try simp only [Act.put, List.setIfInBounds_toArray, List.set_cons_zero, List.set_cons_succ])
      (refine held_take (v := ?_) (d := some 72) 1 (by kernel_rfl) (by kernel_rfl) rfl ?_ ?_
       rotate_left
       · intro w hSw
         conv in opOf _ _ => whnf
         (try dsimp only at hSw)
         go_simp
         try (with_reducible rfl)
       try simp only [Act.put, List.setIfInBounds_toArray, List.set_cons_zero, List.set_cons_succ])
      (refine held_take (v := ?_) (d := some 73) 2 (by kernel_rfl) (by kernel_rfl) rfl ?_ ?_
       rotate_left
       · intro w hSw
         conv in opOf _ _ => whnf
         (try dsimp only at hSw)
         go_simp
         try (with_reducible rfl)
       try simp only [Act.put, List.setIfInBounds_toArray, List.set_cons_zero, List.set_cons_succ])
      (refine held_take (v := ?_) (d := some 74) 3 (by kernel_rfl) (by kernel_rfl) rfl ?_ ?_
       rotate_left
       · intro w hSw
         conv in opOf _ _ => whnf
         (try dsimp only at hSw)
         go_simp
         try (with_reducible rfl)
       try simp only [Act.put, List.setIfInBounds_toArray, List.set_cons_zero, List.set_cons_succ])
      (refine held_take (v := ?_) (d := some 75) 4 (by kernel_rfl) (by kernel_rfl) rfl ?_ ?_
       rotate_left
       · intro w hSw
         conv in opOf _ _ => whnf
         (try dsimp only at hSw)
         go_simp
         try (with_reducible rfl)
       try simp only [Act.put, List.setIfInBounds_toArray, List.set_cons_zero, List.set_cons_succ])
      (refine held_take (v := ?_) (d := some 76) 5 (by kernel_rfl) (by kernel_rfl) rfl ?_ ?_
       rotate_left
       · intro w hSw
         conv in opOf _ _ => whnf
         (try dsimp only at hSw)
         go_simp
         try (with_reducible rfl)
       try simp only [Act.put, List.setIfInBounds_toArray, List.set_cons_zero, List.set_cons_succ])
      (refine held_take (v := ?_) (d := some 77) 6 (by kernel_rfl) (by kernel_rfl) rfl ?_ ?_
       rotate_left
       · intro w hSw
         conv in opOf _ _ => whnf
         (try dsimp only at hSw)
         go_simp
         try (with_reducible rfl)
       try simp only [Act.put, List.setIfInBounds_toArray, List.set_cons_zero, List.set_cons_succ])
      (refine held_take (v := ?_) (d := some 78) 7 (by kernel_rfl) (by kernel_rfl) rfl ?_ ?_
       rotate_left
       · intro w hSw
         conv in opOf _ _ => whnf
         (try dsimp only at hSw)
         go_simp
         try (with_reducible rfl)
       try simp only [Act.put, List.setIfInBounds_toArray, List.set_cons_zero, List.set_cons_succ])
      (refine held_take (v := ?_) (d := some 79) 8 (by kernel_rfl) (by kernel_rfl) rfl ?_ ?_
       rotate_left
       · intro w hSw
         conv in opOf _ _ => whnf
         (try dsimp only at hSw)
         go_simp
         try (with_reducible rfl)
       try simp only [Act.put, List.setIfInBounds_toArray, List.set_cons_zero, List.set_cons_succ])
      (refine held_take (v := ?_) (d := some 80) 9 (by kernel_rfl) (by kernel_rfl) rfl ?_ ?_
       rotate_left
       · intro w hSw
         conv in opOf _ _ => whnf
         (try dsimp only at hSw)
         go_simp
         try (with_reducible rfl)
       try simp only [Act.put, List.setIfInBounds_toArray, List.set_cons_zero, List.set_cons_succ])
      (refine held_take (v := ?_) (d := some 81) 10 (by kernel_rfl) (by kernel_rfl) rfl ?_ ?_
       rotate_left
       · intro w hSw
         conv in opOf _ _ => whnf
         (try dsimp only at hSw)
         go_simp
         try simp only [hN, Bool.not_false]
         try (with_reducible rfl)
       try simp only [Act.put, List.setIfInBounds_toArray, List.set_cons_zero, List.set_cons_succ])
      (refine held_take (v := ?_) (d := some 82) 11 (by kernel_rfl) (by kernel_rfl) rfl ?_ ?_
       rotate_left
       · intro w hSw
         conv in opOf _ _ => whnf
         (try dsimp only at hSw)
         go_simp
         try (with_reducible rfl)
       try simp only [Act.put, List.setIfInBounds_toArray, List.set_cons_zero, List.set_cons_succ])
      (refine held_take (v := ?_) (d := some 83) 12 (by kernel_rfl) (by kernel_rfl) rfl ?_ ?_
       rotate_left
       · intro w hSw
         conv in opOf _ _ => whnf
         (try dsimp only at hSw)
         go_simp
         try (with_reducible rfl)
       try simp only [Act.put, List.setIfInBounds_toArray, List.set_cons_zero, List.set_cons_succ])
      (refine held_take (v := ?_) (d := some 84) 13 (by kernel_rfl) (by kernel_rfl) rfl ?_ ?_
       rotate_left
       · intro w hSw
         conv in opOf _ _ => whnf
         (try dsimp only at hSw)
         go_simp
         try (with_reducible rfl)
       try simp only [Act.put, List.setIfInBounds_toArray, List.set_cons_zero, List.set_cons_succ])
      (refine held_take (v := ?_) (d := some 85) 14 (by kernel_rfl) (by kernel_rfl) rfl ?_ ?_
       rotate_left
       · intro w hSw
         conv in opOf _ _ => whnf
         (try dsimp only at hSw)
         go_simp
         try simp only [hX]
         try (with_reducible rfl)
       try simp only [Act.put, List.setIfInBounds_toArray, List.set_cons_zero, List.set_cons_succ])
      (refine held_take (v := ?_) (d := some 86) 15 (by kernel_rfl) (by kernel_rfl) rfl ?_ ?_
       rotate_left
       · intro w hSw
         conv in opOf _ _ => whnf
         (try dsimp only at hSw)
         go_simp
         try (with_reducible rfl)
       try simp only [Act.put, List.setIfInBounds_toArray, List.set_cons_zero, List.set_cons_succ])
      (refine held_take (v := ?_) (d := some 87) 16 (by kernel_rfl) (by kernel_rfl) rfl ?_ ?_
       rotate_left
       · intro w hSw
         conv in opOf _ _ => whnf
         (try dsimp only at hSw)
         go_simp
         try (with_reducible rfl)
       try simp only [Act.put, List.setIfInBounds_toArray, List.set_cons_zero, List.set_cons_succ])
      (refine held_take (v := ?_) (d := some 88) 17 (by kernel_rfl) (by kernel_rfl) rfl ?_ ?_
       rotate_left
       · intro w hSw
         conv in opOf _ _ => whnf
         (try dsimp only at hSw)
         go_simp
         try (with_reducible rfl)
       try simp only [Act.put, List.setIfInBounds_toArray, List.set_cons_zero, List.set_cons_succ])
      (refine held_take (v := ?_) (d := some 89) 18 (by kernel_rfl) (by kernel_rfl) rfl ?_ ?_
       rotate_left
       · intro w hSw
         conv in opOf _ _ => whnf
         (try dsimp only at hSw)
         go_simp
         try simp only [hY]
         try (with_reducible rfl)
       try simp only [Act.put, List.setIfInBounds_toArray, List.set_cons_zero, List.set_cons_succ])
      (refine held_take (v := ?_) (d := some 90) 19 (by kernel_rfl) (by kernel_rfl) rfl ?_ ?_
       rotate_left
       · intro w hSw
         conv in opOf _ _ => whnf
         (try dsimp only at hSw)
         go_simp
         try (with_reducible rfl)
       try simp only [Act.put, List.setIfInBounds_toArray, List.set_cons_zero, List.set_cons_succ])
      (refine held_take (v := ?_) (d := some 91) 20 (by kernel_rfl) (by kernel_rfl) rfl ?_ ?_
       rotate_left
       · intro w hSw
         conv in opOf _ _ => whnf
         (try dsimp only at hSw)
         go_simp
         try (with_reducible rfl)
       try simp only [Act.put, List.setIfInBounds_toArray, List.set_cons_zero, List.set_cons_succ])
      (refine held_take (v := ?_) (d := some 92) 21 (by kernel_rfl) (by kernel_rfl) rfl ?_ ?_
       rotate_left
       · intro w hSw
         conv in opOf _ _ => whnf
         (try dsimp only at hSw)
         go_simp
         try (with_reducible rfl)
       try simp only [Act.put, List.setIfInBounds_toArray, List.set_cons_zero, List.set_cons_succ])
      (refine held_one 22 (by kernel_rfl) (by kernel_rfl) (held_call (d := some 93) 22 (by kernel_rfl) (by kernel_rfl) rfl (fun hS => known5_any _ (tabHeld hT4 hS)) (by kernel_rfl) (fun w' hS hbb => ⟨held2 hS hg4 hg4 hbb, ?_⟩))
       try simp only [Act.put, List.setIfInBounds_toArray, List.set_cons_zero, List.set_cons_succ])
      (refine held_take (v := ?_) (d := some 94) 23 (by kernel_rfl) (by kernel_rfl) rfl ?_ ?_
       rotate_left
       · intro w hSw
         conv in opOf _ _ => whnf
         (try dsimp only at hSw)
         go_simp
         try (with_reducible rfl)
       try simp only [Act.put, List.setIfInBounds_toArray, List.set_cons_zero, List.set_cons_succ])
      (refine held_take (v := ?_) (d := some 4) 24 (by kernel_rfl) (by kernel_rfl) rfl ?_ ?_
       rotate_left
       · intro w hSw
         conv in opOf _ _ => whnf
         (try dsimp only at hSw)
         go_simp
         try (with_reducible rfl)
       try simp only [Act.put, List.setIfInBounds_toArray, List.set_cons_zero, List.set_cons_succ])
      refine held_done (by kernel_rfl) (fun hS => hR.out _ _ ?_)
      obtain ⟨hB5, _⟩ := hS
      go_wp2_with fail
      go_ret
      exact ⟨rfl, (((hb1.trans (hb2.mono (by omega))).trans (hb3.mono (by omega))).trans (hb4.mono (by omega))).trans (hB5.mono (by omega))⟩

set_option maxHeartbeats 1000000 in
theorem apart_011 (a b : Nat) (x y : Int) (na nb : ByteArray) (la lb : Int) (w : World) (hT : TabIs 0 w) (ha : (a : Int) < 43) (hb : (b : Int) < 43) (hab : ¬ a = b) (hla : 0 ≤ la ∧ la ≤ 255) (hlb : 0 ≤ lb ∧ lb ≤ 255)
    (hN : (na.toList == nb.toList) = false) (hX : decide (la < lb) = true) 
    (Hop : Hid (∀ w, TabIs 0 w → Calls Tryd.prog 28 #[] w fun e w' => ∃ g c, e = .returned (.slice (some ⟨g, 0, none⟩) 43 c) ∧ (43 ≤ c ∧ w.heap.size ≤ g ∧ g < w'.heap.size) ∧ (w'.cell? ⟨g, a * 3, none⟩ = some (.string na) ∧ w'.cell? ⟨g, a * 3 + 1, none⟩ = some (.int .u8 la) ∧
      w'.cell? ⟨g, b * 3, none⟩ = some (.string nb) ∧ w'.cell? ⟨g, b * 3 + 1, none⟩ = some (.int .u8 lb)) ∧ Below w.heap.size w w'))
    (Hwa : Hid (∀ w, Calls Tryd.prog 30 #[.int .i64 x, .int .i64 0, .int .i64 42] w fun e w' => e = .returned (.int .i64 a) ∧ w = w'))
    (Hwb : Hid (∀ w, Calls Tryd.prog 30 #[.int .i64 y, .int .i64 0, .int .i64 42] w fun e w' => e = .returned (.int .i64 b) ∧ w = w'))
    (Hfi : Hid (∀ w, TabIs 0 w → Calls Tryd.prog 15 #[.string na] w fun e w' => e = .returned (.tuple #[.int .i64 (a + 1), .bool true]) ∧ Below w.heap.size w w'))
    (Hsa : Hid (∀ w, TabIs 0 w → Calls Tryd.prog 19 #[.int .i64 (a + 1)] w fun e w' => e = .returned (.bool false) ∧ Below w.heap.size w w'))
    (Hsb : Hid (∀ w, TabIs 0 w → Calls Tryd.prog 19 #[.int .i64 (b + 1)] w fun e w' => e = .returned (.bool true) ∧ Below w.heap.size w w')) :
    Calls Tryd.prog 8 #[.int .i64 x, .int .i64 y] w fun e w' => e = .returned (.bool true) ∧ Below w.heap.size w w' := by
  obtain ⟨hla0, hla1⟩ := hla
  obtain ⟨hlb0, hlb1⟩ := hlb
  go_enter Tryd.func8, Tryd.ntmps8
  go_wp2_with (first
      | (go_at_call 28; refine (Hop.out _ hT).mono ?_; rintro e w1 ⟨g, c, rfl, ⟨hc, hg0, hg1⟩, ⟨hna, hla, hnb, hlb⟩, hb1⟩; have hT1 := hT.grow hb1; have hz1 := hb1.size)
      | (go_at_call 30; (with_reducible refine (Hwa.out _).mono ?_); rintro e w9 ⟨rfl, rfl⟩)
      | (go_at_call 30; (with_reducible refine (Hwb.out _).mono ?_); rintro e w9 ⟨rfl, rfl⟩)
      | (go_at_call 15; refine (Hfi.out _ hT1).mono ?_; rintro e w2 ⟨rfl, hb2⟩; have hT2 := hT1.grow hb2; have hz2 := hb2.size; obtain ⟨hc2, _⟩ := bcell hb2; have hna2 := (hc2 _ _ hg1).trans hna; have hla2 := (hc2 _ _ hg1).trans hla; have hnb2 := (hc2 _ _ hg1).trans hnb; have hlb2 := (hc2 _ _ hg1).trans hlb; have hg2 : g < w2.heap.size := (by omega))
      | (go_at_call 19; (with_reducible refine (Hsa.out _ hT2).mono ?_); rintro e w3 ⟨rfl, hb3⟩; have hT3 := hT2.grow hb3; have hz3 := hb3.size; obtain ⟨hc3, _⟩ := bcell hb3; have hna3 := (hc3 _ _ hg2).trans hna2; have hnb3 := (hc3 _ _ hg2).trans hnb2; have hlb3 := (hc3 _ _ hg2).trans hlb2; have hg3 : g < w3.heap.size := (by omega))
      | (go_at_call 19; (with_reducible refine (Hsb.out _ hT3).mono ?_); rintro e w4 ⟨rfl, hb4⟩; have hT4 := hT3.grow hb4; have hz4 := hb4.size; obtain ⟨hc4, _⟩ := bcell hb4; have hna4 := (hc4 _ _ hg3).trans hna3; have hnb4 := (hc4 _ _ hg3).trans hnb3; have hg4 : g < w4.heap.size := (by omega)))
  all_goals
      refine held_start (ops' := apartOps) (l0 := #[false, false, false, false, false, false, false, false, false, false, false, false, false, false, false, false, false, false, false, false, false, false, false, false, false]) (S := (fun w' => Below w4.heap.size w4 w' ∧ w'.cell? ⟨g, a * 3, none⟩ = some (.string na) ∧ w'.cell? ⟨g, b * 3, none⟩ = some (.string nb))) (by kernel_rfl) (by kernel_rfl) (by kernel_rfl) (by kernel_rfl) ⟨(Below.refl _ _).drew, hna4, hnb4⟩ (fun R hR => ?_)
      (refine held_take (v := ?_) (d := some 71) 0 (by kernel_rfl) (by kernel_rfl) rfl ?_ ?_
       rotate_left
       · intro w hSw
         conv in opOf _ _ => whnf
         (try dsimp only at hSw)
         go_simp
         try (with_reducible rfl)
       try simp only [Act.put, List.setIfInBounds_toArray, List.set_cons_zero, List.set_cons_succ])
      (refine held_take (v := ?_) (d := some 72) 1 (by kernel_rfl) (by kernel_rfl) rfl ?_ ?_
       rotate_left
       · intro w hSw
         conv in opOf _ _ => whnf
         (try dsimp only at hSw)
         go_simp
         try (with_reducible rfl)
       try simp only [Act.put, List.setIfInBounds_toArray, List.set_cons_zero, List.set_cons_succ])
      (refine held_take (v := ?_) (d := some 73) 2 (by kernel_rfl) (by kernel_rfl) rfl ?_ ?_
       rotate_left
       · intro w hSw
         conv in opOf _ _ => whnf
         (try dsimp only at hSw)
         go_simp
         try (with_reducible rfl)
       try simp only [Act.put, List.setIfInBounds_toArray, List.set_cons_zero, List.set_cons_succ])
      (refine held_take (v := ?_) (d := some 74) 3 (by kernel_rfl) (by kernel_rfl) rfl ?_ ?_
       rotate_left
       · intro w hSw
         conv in opOf _ _ => whnf
         (try dsimp only at hSw)
         go_simp
         try (with_reducible rfl)
       try simp only [Act.put, List.setIfInBounds_toArray, List.set_cons_zero, List.set_cons_succ])
      (refine held_take (v := ?_) (d := some 75) 4 (by kernel_rfl) (by kernel_rfl) rfl ?_ ?_
       rotate_left
       · intro w hSw
         conv in opOf _ _ => whnf
         (try dsimp only at hSw)
         go_simp
         try (with_reducible rfl)
       try simp only [Act.put, List.setIfInBounds_toArray, List.set_cons_zero, List.set_cons_succ])
      (refine held_take (v := ?_) (d := some 76) 5 (by kernel_rfl) (by kernel_rfl) rfl ?_ ?_
       rotate_left
       · intro w hSw
         conv in opOf _ _ => whnf
         (try dsimp only at hSw)
         go_simp
         try (with_reducible rfl)
       try simp only [Act.put, List.setIfInBounds_toArray, List.set_cons_zero, List.set_cons_succ])
      (refine held_take (v := ?_) (d := some 77) 6 (by kernel_rfl) (by kernel_rfl) rfl ?_ ?_
       rotate_left
       · intro w hSw
         conv in opOf _ _ => whnf
         (try dsimp only at hSw)
         go_simp
         try (with_reducible rfl)
       try simp only [Act.put, List.setIfInBounds_toArray, List.set_cons_zero, List.set_cons_succ])
      (refine held_take (v := ?_) (d := some 78) 7 (by kernel_rfl) (by kernel_rfl) rfl ?_ ?_
       rotate_left
       · intro w hSw
         conv in opOf _ _ => whnf
         (try dsimp only at hSw)
         go_simp
         try (with_reducible rfl)
       try simp only [Act.put, List.setIfInBounds_toArray, List.set_cons_zero, List.set_cons_succ])
      (refine held_take (v := ?_) (d := some 79) 8 (by kernel_rfl) (by kernel_rfl) rfl ?_ ?_
       rotate_left
       · intro w hSw
         conv in opOf _ _ => whnf
         (try dsimp only at hSw)
         go_simp
         try (with_reducible rfl)
       try simp only [Act.put, List.setIfInBounds_toArray, List.set_cons_zero, List.set_cons_succ])
      (refine held_take (v := ?_) (d := some 80) 9 (by kernel_rfl) (by kernel_rfl) rfl ?_ ?_
       rotate_left
       · intro w hSw
         conv in opOf _ _ => whnf
         (try dsimp only at hSw)
         go_simp
         try (with_reducible rfl)
       try simp only [Act.put, List.setIfInBounds_toArray, List.set_cons_zero, List.set_cons_succ])
      (refine held_take (v := ?_) (d := some 81) 10 (by kernel_rfl) (by kernel_rfl) rfl ?_ ?_
       rotate_left
       · intro w hSw
         conv in opOf _ _ => whnf
         (try dsimp only at hSw)
         go_simp
         try simp only [hN, Bool.not_false]
         try (with_reducible rfl)
       try simp only [Act.put, List.setIfInBounds_toArray, List.set_cons_zero, List.set_cons_succ])
      (refine held_take (v := ?_) (d := some 82) 11 (by kernel_rfl) (by kernel_rfl) rfl ?_ ?_
       rotate_left
       · intro w hSw
         conv in opOf _ _ => whnf
         (try dsimp only at hSw)
         go_simp
         try (with_reducible rfl)
       try simp only [Act.put, List.setIfInBounds_toArray, List.set_cons_zero, List.set_cons_succ])
      (refine held_take (v := ?_) (d := some 83) 12 (by kernel_rfl) (by kernel_rfl) rfl ?_ ?_
       rotate_left
       · intro w hSw
         conv in opOf _ _ => whnf
         (try dsimp only at hSw)
         go_simp
         try (with_reducible rfl)
       try simp only [Act.put, List.setIfInBounds_toArray, List.set_cons_zero, List.set_cons_succ])
      (refine held_take (v := ?_) (d := some 84) 13 (by kernel_rfl) (by kernel_rfl) rfl ?_ ?_
       rotate_left
       · intro w hSw
         conv in opOf _ _ => whnf
         (try dsimp only at hSw)
         go_simp
         try (with_reducible rfl)
       try simp only [Act.put, List.setIfInBounds_toArray, List.set_cons_zero, List.set_cons_succ])
      (refine held_take (v := ?_) (d := some 85) 14 (by kernel_rfl) (by kernel_rfl) rfl ?_ ?_
       rotate_left
       · intro w hSw
         conv in opOf _ _ => whnf
         (try dsimp only at hSw)
         go_simp
         try simp only [hX]
         try (with_reducible rfl)
       try simp only [Act.put, List.setIfInBounds_toArray, List.set_cons_zero, List.set_cons_succ])
      (refine held_take (v := ?_) (d := some 86) 15 (by kernel_rfl) (by kernel_rfl) rfl ?_ ?_
       rotate_left
       · intro w hSw
         conv in opOf _ _ => whnf
         (try dsimp only at hSw)
         go_simp
         try (with_reducible rfl)
       try simp only [Act.put, List.setIfInBounds_toArray, List.set_cons_zero, List.set_cons_succ])
      (refine held_skip (d := some 87) 16 (by kernel_rfl) (by kernel_rfl) rfl ?_
       try simp only [Act.put, List.setIfInBounds_toArray, List.set_cons_zero, List.set_cons_succ])
      (refine held_skip (d := some 88) 17 (by kernel_rfl) (by kernel_rfl) rfl ?_
       try simp only [Act.put, List.setIfInBounds_toArray, List.set_cons_zero, List.set_cons_succ])
      (refine held_skip (d := some 89) 18 (by kernel_rfl) (by kernel_rfl) rfl ?_
       try simp only [Act.put, List.setIfInBounds_toArray, List.set_cons_zero, List.set_cons_succ])
      (refine held_take (v := ?_) (d := some 90) 19 (by kernel_rfl) (by kernel_rfl) rfl ?_ ?_
       rotate_left
       · intro w hSw
         conv in opOf _ _ => whnf
         (try dsimp only at hSw)
         go_simp
         try (with_reducible rfl)
       try simp only [Act.put, List.setIfInBounds_toArray, List.set_cons_zero, List.set_cons_succ])
      (refine held_take (v := ?_) (d := some 91) 20 (by kernel_rfl) (by kernel_rfl) rfl ?_ ?_
       rotate_left
       · intro w hSw
         conv in opOf _ _ => whnf
         (try dsimp only at hSw)
         go_simp
         try (with_reducible rfl)
       try simp only [Act.put, List.setIfInBounds_toArray, List.set_cons_zero, List.set_cons_succ])
      (refine held_take (v := ?_) (d := some 92) 21 (by kernel_rfl) (by kernel_rfl) rfl ?_ ?_
       rotate_left
       · intro w hSw
         conv in opOf _ _ => whnf
         (try dsimp only at hSw)
         go_simp
         try (with_reducible rfl)
       try simp only [Act.put, List.setIfInBounds_toArray, List.set_cons_zero, List.set_cons_succ])
      (refine held_one 22 (by kernel_rfl) (by kernel_rfl) (held_call (d := some 93) 22 (by kernel_rfl) (by kernel_rfl) rfl (fun hS => known5_any _ (tabHeld hT4 hS)) (by kernel_rfl) (fun w' hS hbb => ⟨held2 hS hg4 hg4 hbb, ?_⟩))
       try simp only [Act.put, List.setIfInBounds_toArray, List.set_cons_zero, List.set_cons_succ])
      (refine held_take (v := ?_) (d := some 94) 23 (by kernel_rfl) (by kernel_rfl) rfl ?_ ?_
       rotate_left
       · intro w hSw
         conv in opOf _ _ => whnf
         (try dsimp only at hSw)
         go_simp
         try (with_reducible rfl)
       try simp only [Act.put, List.setIfInBounds_toArray, List.set_cons_zero, List.set_cons_succ])
      (refine held_take (v := ?_) (d := some 4) 24 (by kernel_rfl) (by kernel_rfl) rfl ?_ ?_
       rotate_left
       · intro w hSw
         conv in opOf _ _ => whnf
         (try dsimp only at hSw)
         go_simp
         try (with_reducible rfl)
       try simp only [Act.put, List.setIfInBounds_toArray, List.set_cons_zero, List.set_cons_succ])
      refine held_done (by kernel_rfl) (fun hS => hR.out _ _ ?_)
      obtain ⟨hB5, _⟩ := hS
      go_wp2_with fail
      go_ret
      exact ⟨rfl, (((hb1.trans (hb2.mono (by omega))).trans (hb3.mono (by omega))).trans (hb4.mono (by omega))).trans (hB5.mono (by omega))⟩

set_option maxHeartbeats 1000000 in
theorem apart_100 (a b : Nat) (x y : Int) (na nb : ByteArray) (la lb : Int) (w : World) (hT : TabIs 0 w) (ha : (a : Int) < 43) (hb : (b : Int) < 43) (hab : ¬ a = b) (hla : 0 ≤ la ∧ la ≤ 255) (hlb : 0 ≤ lb ∧ lb ≤ 255)
    (hN : (na.toList == nb.toList) = false) (hX : decide (la + 2 < lb) = false) (hY : decide (lb < la) = true)
    (Hop : Hid (∀ w, TabIs 0 w → Calls Tryd.prog 28 #[] w fun e w' => ∃ g c, e = .returned (.slice (some ⟨g, 0, none⟩) 43 c) ∧ (43 ≤ c ∧ w.heap.size ≤ g ∧ g < w'.heap.size) ∧ (w'.cell? ⟨g, a * 3, none⟩ = some (.string na) ∧ w'.cell? ⟨g, a * 3 + 1, none⟩ = some (.int .u8 la) ∧
      w'.cell? ⟨g, b * 3, none⟩ = some (.string nb) ∧ w'.cell? ⟨g, b * 3 + 1, none⟩ = some (.int .u8 lb)) ∧ Below w.heap.size w w'))
    (Hwa : Hid (∀ w, Calls Tryd.prog 30 #[.int .i64 x, .int .i64 0, .int .i64 42] w fun e w' => e = .returned (.int .i64 a) ∧ w = w'))
    (Hwb : Hid (∀ w, Calls Tryd.prog 30 #[.int .i64 y, .int .i64 0, .int .i64 42] w fun e w' => e = .returned (.int .i64 b) ∧ w = w'))
    (Hfi : Hid (∀ w, TabIs 0 w → Calls Tryd.prog 15 #[.string na] w fun e w' => e = .returned (.tuple #[.int .i64 (a + 1), .bool true]) ∧ Below w.heap.size w w'))
    (Hsa : Hid (∀ w, TabIs 0 w → Calls Tryd.prog 19 #[.int .i64 (a + 1)] w fun e w' => e = .returned (.bool true) ∧ Below w.heap.size w w'))
    (Hsb : Hid (∀ w, TabIs 0 w → Calls Tryd.prog 19 #[.int .i64 (b + 1)] w fun e w' => e = .returned (.bool false) ∧ Below w.heap.size w w')) :
    Calls Tryd.prog 8 #[.int .i64 x, .int .i64 y] w fun e w' => e = .returned (.bool true) ∧ Below w.heap.size w w' := by
  obtain ⟨hla0, hla1⟩ := hla
  obtain ⟨hlb0, hlb1⟩ := hlb
  go_enter Tryd.func8, Tryd.ntmps8
  go_wp2_with (first
      | (go_at_call 28; refine (Hop.out _ hT).mono ?_; rintro e w1 ⟨g, c, rfl, ⟨hc, hg0, hg1⟩, ⟨hna, hla, hnb, hlb⟩, hb1⟩; have hT1 := hT.grow hb1; have hz1 := hb1.size)
      | (go_at_call 30; (with_reducible refine (Hwa.out _).mono ?_); rintro e w9 ⟨rfl, rfl⟩)
      | (go_at_call 30; (with_reducible refine (Hwb.out _).mono ?_); rintro e w9 ⟨rfl, rfl⟩)
      | (go_at_call 15; refine (Hfi.out _ hT1).mono ?_; rintro e w2 ⟨rfl, hb2⟩; have hT2 := hT1.grow hb2; have hz2 := hb2.size; obtain ⟨hc2, _⟩ := bcell hb2; have hna2 := (hc2 _ _ hg1).trans hna; have hla2 := (hc2 _ _ hg1).trans hla; have hnb2 := (hc2 _ _ hg1).trans hnb; have hlb2 := (hc2 _ _ hg1).trans hlb; have hg2 : g < w2.heap.size := (by omega))
      | (go_at_call 19; (with_reducible refine (Hsa.out _ hT2).mono ?_); rintro e w3 ⟨rfl, hb3⟩; have hT3 := hT2.grow hb3; have hz3 := hb3.size; obtain ⟨hc3, _⟩ := bcell hb3; have hna3 := (hc3 _ _ hg2).trans hna2; have hnb3 := (hc3 _ _ hg2).trans hnb2; have hlb3 := (hc3 _ _ hg2).trans hlb2; have hg3 : g < w3.heap.size := (by omega))
      | (go_at_call 19; (with_reducible refine (Hsb.out _ hT3).mono ?_); rintro e w4 ⟨rfl, hb4⟩; have hT4 := hT3.grow hb4; have hz4 := hb4.size; obtain ⟨hc4, _⟩ := bcell hb4; have hna4 := (hc4 _ _ hg3).trans hna3; have hnb4 := (hc4 _ _ hg3).trans hnb3; have hg4 : g < w4.heap.size := (by omega)))
  all_goals
      refine held_start (ops' := apartOps) (l0 := #[false, false, false, false, false, false, false, false, false, false, false, false, false, false, false, false, false, false, false, false, false, false, false, false, false]) (S := (fun w' => Below w4.heap.size w4 w' ∧ w'.cell? ⟨g, a * 3, none⟩ = some (.string na) ∧ w'.cell? ⟨g, b * 3, none⟩ = some (.string nb))) (by kernel_rfl) (by kernel_rfl) (by kernel_rfl) (by kernel_rfl) ⟨(Below.refl _ _).drew, hna4, hnb4⟩ (fun R hR => ?_)
      (refine held_take (v := ?_) (d := some 71) 0 (by kernel_rfl) (by kernel_rfl) rfl ?_ ?_
       rotate_left
       · intro w hSw
         conv in opOf _ _ => whnf
         (try dsimp only at hSw)
         go_simp
         try (with_reducible rfl)
       try simp only [Act.put, List.setIfInBounds_toArray, List.set_cons_zero, List.set_cons_succ])
      (refine held_take (v := ?_) (d := some 72) 1 (by kernel_rfl) (by kernel_rfl) rfl ?_ ?_
       rotate_left
       · intro w hSw
         conv in opOf _ _ => whnf
         (try dsimp only at hSw)
         go_simp
         try (with_reducible rfl)
       try simp only [Act.put, List.setIfInBounds_toArray, List.set_cons_zero, List.set_cons_succ])
      (refine held_take (v := ?_) (d := some 73) 2 (by kernel_rfl) (by kernel_rfl) rfl ?_ ?_
       rotate_left
       · intro w hSw
         conv in opOf _ _ => whnf
         (try dsimp only at hSw)
         go_simp
         try (with_reducible rfl)
       try simp only [Act.put, List.setIfInBounds_toArray, List.set_cons_zero, List.set_cons_succ])
      (refine held_take (v := ?_) (d := some 74) 3 (by kernel_rfl) (by kernel_rfl) rfl ?_ ?_
       rotate_left
       · intro w hSw
         conv in opOf _ _ => whnf
         (try dsimp only at hSw)
         go_simp
         try (with_reducible rfl)
       try simp only [Act.put, List.setIfInBounds_toArray, List.set_cons_zero, List.set_cons_succ])
      (refine held_take (v := ?_) (d := some 75) 4 (by kernel_rfl) (by kernel_rfl) rfl ?_ ?_
       rotate_left
       · intro w hSw
         conv in opOf _ _ => whnf
         (try dsimp only at hSw)
         go_simp
         try (with_reducible rfl)
       try simp only [Act.put, List.setIfInBounds_toArray, List.set_cons_zero, List.set_cons_succ])
      (refine held_take (v := ?_) (d := some 76) 5 (by kernel_rfl) (by kernel_rfl) rfl ?_ ?_
       rotate_left
       · intro w hSw
         conv in opOf _ _ => whnf
         (try dsimp only at hSw)
         go_simp
         try (with_reducible rfl)
       try simp only [Act.put, List.setIfInBounds_toArray, List.set_cons_zero, List.set_cons_succ])
      (refine held_take (v := ?_) (d := some 77) 6 (by kernel_rfl) (by kernel_rfl) rfl ?_ ?_
       rotate_left
       · intro w hSw
         conv in opOf _ _ => whnf
         (try dsimp only at hSw)
         go_simp
         try (with_reducible rfl)
       try simp only [Act.put, List.setIfInBounds_toArray, List.set_cons_zero, List.set_cons_succ])
      (refine held_take (v := ?_) (d := some 78) 7 (by kernel_rfl) (by kernel_rfl) rfl ?_ ?_
       rotate_left
       · intro w hSw
         conv in opOf _ _ => whnf
         (try dsimp only at hSw)
         go_simp
         try (with_reducible rfl)
       try simp only [Act.put, List.setIfInBounds_toArray, List.set_cons_zero, List.set_cons_succ])
      (refine held_take (v := ?_) (d := some 79) 8 (by kernel_rfl) (by kernel_rfl) rfl ?_ ?_
       rotate_left
       · intro w hSw
         conv in opOf _ _ => whnf
         (try dsimp only at hSw)
         go_simp
         try (with_reducible rfl)
       try simp only [Act.put, List.setIfInBounds_toArray, List.set_cons_zero, List.set_cons_succ])
      (refine held_take (v := ?_) (d := some 80) 9 (by kernel_rfl) (by kernel_rfl) rfl ?_ ?_
       rotate_left
       · intro w hSw
         conv in opOf _ _ => whnf
         (try dsimp only at hSw)
         go_simp
         try (with_reducible rfl)
       try simp only [Act.put, List.setIfInBounds_toArray, List.set_cons_zero, List.set_cons_succ])
      (refine held_take (v := ?_) (d := some 81) 10 (by kernel_rfl) (by kernel_rfl) rfl ?_ ?_
       rotate_left
       · intro w hSw
         conv in opOf _ _ => whnf
         (try dsimp only at hSw)
         go_simp
         try simp only [hN, Bool.not_false]
         try (with_reducible rfl)
       try simp only [Act.put, List.setIfInBounds_toArray, List.set_cons_zero, List.set_cons_succ])
      (refine held_take (v := ?_) (d := some 82) 11 (by kernel_rfl) (by kernel_rfl) rfl ?_ ?_
       rotate_left
       · intro w hSw
         conv in opOf _ _ => whnf
         (try dsimp only at hSw)
         go_simp
         try (with_reducible rfl)
       try simp only [Act.put, List.setIfInBounds_toArray, List.set_cons_zero, List.set_cons_succ])
      (refine held_take (v := ?_) (d := some 83) 12 (by kernel_rfl) (by kernel_rfl) rfl ?_ ?_
       rotate_left
       · intro w hSw
         conv in opOf _ _ => whnf
         (try dsimp only at hSw)
         go_simp
         try (with_reducible rfl)
       try simp only [Act.put, List.setIfInBounds_toArray, List.set_cons_zero, List.set_cons_succ])
      (refine held_take (v := ?_) (d := some 84) 13 (by kernel_rfl) (by kernel_rfl) rfl ?_ ?_
       rotate_left
       · intro w hSw
         conv in opOf _ _ => whnf
         (try dsimp only at hSw)
         go_simp
         try (with_reducible rfl)
       try simp only [Act.put, List.setIfInBounds_toArray, List.set_cons_zero, List.set_cons_succ])
      (refine held_take (v := ?_) (d := some 85) 14 (by kernel_rfl) (by kernel_rfl) rfl ?_ ?_
       rotate_left
       · intro w hSw
         conv in opOf _ _ => whnf
         (try dsimp only at hSw)
         go_simp
         try simp only [hX]
         try (with_reducible rfl)
       try simp only [Act.put, List.setIfInBounds_toArray, List.set_cons_zero, List.set_cons_succ])
      (refine held_take (v := ?_) (d := some 86) 15 (by kernel_rfl) (by kernel_rfl) rfl ?_ ?_
       rotate_left
       · intro w hSw
         conv in opOf _ _ => whnf
         (try dsimp only at hSw)
         go_simp
         try (with_reducible rfl)
       try simp only [Act.put, List.setIfInBounds_toArray, List.set_cons_zero, List.set_cons_succ])
      (refine held_take (v := ?_) (d := some 87) 16 (by kernel_rfl) (by kernel_rfl) rfl ?_ ?_
       rotate_left
       · intro w hSw
         conv in opOf _ _ => whnf
         (try dsimp only at hSw)
         go_simp
         try (with_reducible rfl)
       try simp only [Act.put, List.setIfInBounds_toArray, List.set_cons_zero, List.set_cons_succ])
      (refine held_take (v := ?_) (d := some 88) 17 (by kernel_rfl) (by kernel_rfl) rfl ?_ ?_
       rotate_left
       · intro w hSw
         conv in opOf _ _ => whnf
         (try dsimp only at hSw)
         go_simp
         try (with_reducible rfl)
       try simp only [Act.put, List.setIfInBounds_toArray, List.set_cons_zero, List.set_cons_succ])
      (refine held_take (v := ?_) (d := some 89) 18 (by kernel_rfl) (by kernel_rfl) rfl ?_ ?_
       rotate_left
       · intro w hSw
         conv in opOf _ _ => whnf
         (try dsimp only at hSw)
         go_simp
         try simp only [hY]
         try (with_reducible rfl)
       try simp only [Act.put, List.setIfInBounds_toArray, List.set_cons_zero, List.set_cons_succ])
      (refine held_take (v := ?_) (d := some 90) 19 (by kernel_rfl) (by kernel_rfl) rfl ?_ ?_
       rotate_left
       · intro w hSw
         conv in opOf _ _ => whnf
         (try dsimp only at hSw)
         go_simp
         try (with_reducible rfl)
       try simp only [Act.put, List.setIfInBounds_toArray, List.set_cons_zero, List.set_cons_succ])
      (refine held_take (v := ?_) (d := some 91) 20 (by kernel_rfl) (by kernel_rfl) rfl ?_ ?_
       rotate_left
       · intro w hSw
         conv in opOf _ _ => whnf
         (try dsimp only at hSw)
         go_simp
         try (with_reducible rfl)
       try simp only [Act.put, List.setIfInBounds_toArray, List.set_cons_zero, List.set_cons_succ])
      (refine held_take (v := ?_) (d := some 92) 21 (by kernel_rfl) (by kernel_rfl) rfl ?_ ?_
       rotate_left
       · intro w hSw
         conv in opOf _ _ => whnf
         (try dsimp only at hSw)
         go_simp
         try (with_reducible rfl)
       try simp only [Act.put, List.setIfInBounds_toArray, List.set_cons_zero, List.set_cons_succ])
      (refine held_one 22 (by kernel_rfl) (by kernel_rfl) (held_call (d := some 93) 22 (by kernel_rfl) (by kernel_rfl) rfl (fun hS => known5_any _ (tabHeld hT4 hS)) (by kernel_rfl) (fun w' hS hbb => ⟨held2 hS hg4 hg4 hbb, ?_⟩))
       try simp only [Act.put, List.setIfInBounds_toArray, List.set_cons_zero, List.set_cons_succ])
      (refine held_take (v := ?_) (d := some 94) 23 (by kernel_rfl) (by kernel_rfl) rfl ?_ ?_
       rotate_left
       · intro w hSw
         conv in opOf _ _ => whnf
         (try dsimp only at hSw)
         go_simp
         try (with_reducible rfl)
       try simp only [Act.put, List.setIfInBounds_toArray, List.set_cons_zero, List.set_cons_succ])
      (refine held_take (v := ?_) (d := some 4) 24 (by kernel_rfl) (by kernel_rfl) rfl ?_ ?_
       rotate_left
       · intro w hSw
         conv in opOf _ _ => whnf
         (try dsimp only at hSw)
         go_simp
         try (with_reducible rfl)
       try simp only [Act.put, List.setIfInBounds_toArray, List.set_cons_zero, List.set_cons_succ])
      refine held_done (by kernel_rfl) (fun hS => hR.out _ _ ?_)
      obtain ⟨hB5, _⟩ := hS
      go_wp2_with fail
      go_ret
      exact ⟨rfl, (((hb1.trans (hb2.mono (by omega))).trans (hb3.mono (by omega))).trans (hb4.mono (by omega))).trans (hB5.mono (by omega))⟩

set_option maxHeartbeats 1000000 in
theorem apart_101 (a b : Nat) (x y : Int) (na nb : ByteArray) (la lb : Int) (w : World) (hT : TabIs 0 w) (ha : (a : Int) < 43) (hb : (b : Int) < 43) (hab : ¬ a = b) (hla : 0 ≤ la ∧ la ≤ 255) (hlb : 0 ≤ lb ∧ lb ≤ 255)
    (hN : (na.toList == nb.toList) = false) (hX : decide (la + 2 < lb) = true) 
    (Hop : Hid (∀ w, TabIs 0 w → Calls Tryd.prog 28 #[] w fun e w' => ∃ g c, e = .returned (.slice (some ⟨g, 0, none⟩) 43 c) ∧ (43 ≤ c ∧ w.heap.size ≤ g ∧ g < w'.heap.size) ∧ (w'.cell? ⟨g, a * 3, none⟩ = some (.string na) ∧ w'.cell? ⟨g, a * 3 + 1, none⟩ = some (.int .u8 la) ∧
      w'.cell? ⟨g, b * 3, none⟩ = some (.string nb) ∧ w'.cell? ⟨g, b * 3 + 1, none⟩ = some (.int .u8 lb)) ∧ Below w.heap.size w w'))
    (Hwa : Hid (∀ w, Calls Tryd.prog 30 #[.int .i64 x, .int .i64 0, .int .i64 42] w fun e w' => e = .returned (.int .i64 a) ∧ w = w'))
    (Hwb : Hid (∀ w, Calls Tryd.prog 30 #[.int .i64 y, .int .i64 0, .int .i64 42] w fun e w' => e = .returned (.int .i64 b) ∧ w = w'))
    (Hfi : Hid (∀ w, TabIs 0 w → Calls Tryd.prog 15 #[.string na] w fun e w' => e = .returned (.tuple #[.int .i64 (a + 1), .bool true]) ∧ Below w.heap.size w w'))
    (Hsa : Hid (∀ w, TabIs 0 w → Calls Tryd.prog 19 #[.int .i64 (a + 1)] w fun e w' => e = .returned (.bool true) ∧ Below w.heap.size w w'))
    (Hsb : Hid (∀ w, TabIs 0 w → Calls Tryd.prog 19 #[.int .i64 (b + 1)] w fun e w' => e = .returned (.bool false) ∧ Below w.heap.size w w')) :
    Calls Tryd.prog 8 #[.int .i64 x, .int .i64 y] w fun e w' => e = .returned (.bool true) ∧ Below w.heap.size w w' := by
  obtain ⟨hla0, hla1⟩ := hla
  obtain ⟨hlb0, hlb1⟩ := hlb
  go_enter Tryd.func8, Tryd.ntmps8
  go_wp2_with (first
      | (go_at_call 28; refine (Hop.out _ hT).mono ?_; rintro e w1 ⟨g, c, rfl, ⟨hc, hg0, hg1⟩, ⟨hna, hla, hnb, hlb⟩, hb1⟩; have hT1 := hT.grow hb1; have hz1 := hb1.size)
      | (go_at_call 30; (with_reducible refine (Hwa.out _).mono ?_); rintro e w9 ⟨rfl, rfl⟩)
      | (go_at_call 30; (with_reducible refine (Hwb.out _).mono ?_); rintro e w9 ⟨rfl, rfl⟩)
      | (go_at_call 15; refine (Hfi.out _ hT1).mono ?_; rintro e w2 ⟨rfl, hb2⟩; have hT2 := hT1.grow hb2; have hz2 := hb2.size; obtain ⟨hc2, _⟩ := bcell hb2; have hna2 := (hc2 _ _ hg1).trans hna; have hla2 := (hc2 _ _ hg1).trans hla; have hnb2 := (hc2 _ _ hg1).trans hnb; have hlb2 := (hc2 _ _ hg1).trans hlb; have hg2 : g < w2.heap.size := (by omega))
      | (go_at_call 19; (with_reducible refine (Hsa.out _ hT2).mono ?_); rintro e w3 ⟨rfl, hb3⟩; have hT3 := hT2.grow hb3; have hz3 := hb3.size; obtain ⟨hc3, _⟩ := bcell hb3; have hna3 := (hc3 _ _ hg2).trans hna2; have hnb3 := (hc3 _ _ hg2).trans hnb2; have hlb3 := (hc3 _ _ hg2).trans hlb2; have hg3 : g < w3.heap.size := (by omega))
      | (go_at_call 19; (with_reducible refine (Hsb.out _ hT3).mono ?_); rintro e w4 ⟨rfl, hb4⟩; have hT4 := hT3.grow hb4; have hz4 := hb4.size; obtain ⟨hc4, _⟩ := bcell hb4; have hna4 := (hc4 _ _ hg3).trans hna3; have hnb4 := (hc4 _ _ hg3).trans hnb3; have hg4 : g < w4.heap.size := (by omega)))
  all_goals
      refine held_start (ops' := apartOps) (l0 := #[false, false, false, false, false, false, false, false, false, false, false, false, false, false, false, false, false, false, false, false, false, false, false, false, false]) (S := (fun w' => Below w4.heap.size w4 w' ∧ w'.cell? ⟨g, a * 3, none⟩ = some (.string na) ∧ w'.cell? ⟨g, b * 3, none⟩ = some (.string nb))) (by kernel_rfl) (by kernel_rfl) (by kernel_rfl) (by kernel_rfl) ⟨(Below.refl _ _).drew, hna4, hnb4⟩ (fun R hR => ?_)
      (refine held_take (v := ?_) (d := some 71) 0 (by kernel_rfl) (by kernel_rfl) rfl ?_ ?_
       rotate_left
       · intro w hSw
         conv in opOf _ _ => whnf
         (try dsimp only at hSw)
         go_simp
         try (with_reducible rfl)
       try simp only [Act.put, List.setIfInBounds_toArray, List.set_cons_zero, List.set_cons_succ])
      (refine held_take (v := ?_) (d := some 72) 1 (by kernel_rfl) (by kernel_rfl) rfl ?_ ?_
       rotate_left
       · intro w hSw
         conv in opOf _ _ => whnf
         (try dsimp only at hSw)
         go_simp
         try (with_reducible rfl)
       try simp only [Act.put, List.setIfInBounds_toArray, List.set_cons_zero, List.set_cons_succ])
      (refine held_take (v := ?_) (d := some 73) 2 (by kernel_rfl) (by kernel_rfl) rfl ?_ ?_
       rotate_left
       · intro w hSw
         conv in opOf _ _ => whnf
         (try dsimp only at hSw)
         go_simp
         try (with_reducible rfl)
       try simp only [Act.put, List.setIfInBounds_toArray, List.set_cons_zero, List.set_cons_succ])
      (refine held_take (v := ?_) (d := some 74) 3 (by kernel_rfl) (by kernel_rfl) rfl ?_ ?_
       rotate_left
       · intro w hSw
         conv in opOf _ _ => whnf
         (try dsimp only at hSw)
         go_simp
         try (with_reducible rfl)
       try simp only [Act.put, List.setIfInBounds_toArray, List.set_cons_zero, List.set_cons_succ])
      (refine held_take (v := ?_) (d := some 75) 4 (by kernel_rfl) (by kernel_rfl) rfl ?_ ?_
       rotate_left
       · intro w hSw
         conv in opOf _ _ => whnf
         (try dsimp only at hSw)
         go_simp
         try (with_reducible rfl)
       try simp only [Act.put, List.setIfInBounds_toArray, List.set_cons_zero, List.set_cons_succ])
      (refine held_take (v := ?_) (d := some 76) 5 (by kernel_rfl) (by kernel_rfl) rfl ?_ ?_
       rotate_left
       · intro w hSw
         conv in opOf _ _ => whnf
         (try dsimp only at hSw)
         go_simp
         try (with_reducible rfl)
       try simp only [Act.put, List.setIfInBounds_toArray, List.set_cons_zero, List.set_cons_succ])
      (refine held_take (v := ?_) (d := some 77) 6 (by kernel_rfl) (by kernel_rfl) rfl ?_ ?_
       rotate_left
       · intro w hSw
         conv in opOf _ _ => whnf
         (try dsimp only at hSw)
         go_simp
         try (with_reducible rfl)
       try simp only [Act.put, List.setIfInBounds_toArray, List.set_cons_zero, List.set_cons_succ])
      (refine held_take (v := ?_) (d := some 78) 7 (by kernel_rfl) (by kernel_rfl) rfl ?_ ?_
       rotate_left
       · intro w hSw
         conv in opOf _ _ => whnf
         (try dsimp only at hSw)
         go_simp
         try (with_reducible rfl)
       try simp only [Act.put, List.setIfInBounds_toArray, List.set_cons_zero, List.set_cons_succ])
      (refine held_take (v := ?_) (d := some 79) 8 (by kernel_rfl) (by kernel_rfl) rfl ?_ ?_
       rotate_left
       · intro w hSw
         conv in opOf _ _ => whnf
         (try dsimp only at hSw)
         go_simp
         try (with_reducible rfl)
       try simp only [Act.put, List.setIfInBounds_toArray, List.set_cons_zero, List.set_cons_succ])
      (refine held_take (v := ?_) (d := some 80) 9 (by kernel_rfl) (by kernel_rfl) rfl ?_ ?_
       rotate_left
       · intro w hSw
         conv in opOf _ _ => whnf
         (try dsimp only at hSw)
         go_simp
         try (with_reducible rfl)
       try simp only [Act.put, List.setIfInBounds_toArray, List.set_cons_zero, List.set_cons_succ])
      (refine held_take (v := ?_) (d := some 81) 10 (by kernel_rfl) (by kernel_rfl) rfl ?_ ?_
       rotate_left
       · intro w hSw
         conv in opOf _ _ => whnf
         (try dsimp only at hSw)
         go_simp
         try simp only [hN, Bool.not_false]
         try (with_reducible rfl)
       try simp only [Act.put, List.setIfInBounds_toArray, List.set_cons_zero, List.set_cons_succ])
      (refine held_take (v := ?_) (d := some 82) 11 (by kernel_rfl) (by kernel_rfl) rfl ?_ ?_
       rotate_left
       · intro w hSw
         conv in opOf _ _ => whnf
         (try dsimp only at hSw)
         go_simp
         try (with_reducible rfl)
       try simp only [Act.put, List.setIfInBounds_toArray, List.set_cons_zero, List.set_cons_succ])
      (refine held_take (v := ?_) (d := some 83) 12 (by kernel_rfl) (by kernel_rfl) rfl ?_ ?_
       rotate_left
       · intro w hSw
         conv in opOf _ _ => whnf
         (try dsimp only at hSw)
         go_simp
         try (with_reducible rfl)
       try simp only [Act.put, List.setIfInBounds_toArray, List.set_cons_zero, List.set_cons_succ])
      (refine held_take (v := ?_) (d := some 84) 13 (by kernel_rfl) (by kernel_rfl) rfl ?_ ?_
       rotate_left
       · intro w hSw
         conv in opOf _ _ => whnf
         (try dsimp only at hSw)
         go_simp
         try (with_reducible rfl)
       try simp only [Act.put, List.setIfInBounds_toArray, List.set_cons_zero, List.set_cons_succ])
      (refine held_take (v := ?_) (d := some 85) 14 (by kernel_rfl) (by kernel_rfl) rfl ?_ ?_
       rotate_left
       · intro w hSw
         conv in opOf _ _ => whnf
         (try dsimp only at hSw)
         go_simp
         try simp only [hX]
         try (with_reducible rfl)
       try simp only [Act.put, List.setIfInBounds_toArray, List.set_cons_zero, List.set_cons_succ])
      (refine held_take (v := ?_) (d := some 86) 15 (by kernel_rfl) (by kernel_rfl) rfl ?_ ?_
       rotate_left
       · intro w hSw
         conv in opOf _ _ => whnf
         (try dsimp only at hSw)
         go_simp
         try (with_reducible rfl)
       try simp only [Act.put, List.setIfInBounds_toArray, List.set_cons_zero, List.set_cons_succ])
      (refine held_skip (d := some 87) 16 (by kernel_rfl) (by kernel_rfl) rfl ?_
       try simp only [Act.put, List.setIfInBounds_toArray, List.set_cons_zero, List.set_cons_succ])
      (refine held_skip (d := some 88) 17 (by kernel_rfl) (by kernel_rfl) rfl ?_
       try simp only [Act.put, List.setIfInBounds_toArray, List.set_cons_zero, List.set_cons_succ])
      (refine held_skip (d := some 89) 18 (by kernel_rfl) (by kernel_rfl) rfl ?_
       try simp only [Act.put, List.setIfInBounds_toArray, List.set_cons_zero, List.set_cons_succ])
      (refine held_take (v := ?_) (d := some 90) 19 (by kernel_rfl) (by kernel_rfl) rfl ?_ ?_
       rotate_left
       · intro w hSw
         conv in opOf _ _ => whnf
         (try dsimp only at hSw)
         go_simp
         try (with_reducible rfl)
       try simp only [Act.put, List.setIfInBounds_toArray, List.set_cons_zero, List.set_cons_succ])
      (refine held_take (v := ?_) (d := some 91) 20 (by kernel_rfl) (by kernel_rfl) rfl ?_ ?_
       rotate_left
       · intro w hSw
         conv in opOf _ _ => whnf
         (try dsimp only at hSw)
         go_simp
         try (with_reducible rfl)
       try simp only [Act.put, List.setIfInBounds_toArray, List.set_cons_zero, List.set_cons_succ])
      (refine held_take (v := ?_) (d := some 92) 21 (by kernel_rfl) (by kernel_rfl) rfl ?_ ?_
       rotate_left
       · intro w hSw
         conv in opOf _ _ => whnf
         (try dsimp only at hSw)
         go_simp
         try (with_reducible rfl)
       try simp only [Act.put, List.setIfInBounds_toArray, List.set_cons_zero, List.set_cons_succ])
      (refine held_one 22 (by kernel_rfl) (by kernel_rfl) (held_call (d := some 93) 22 (by kernel_rfl) (by kernel_rfl) rfl (fun hS => known5_any _ (tabHeld hT4 hS)) (by kernel_rfl) (fun w' hS hbb => ⟨held2 hS hg4 hg4 hbb, ?_⟩))
       try simp only [Act.put, List.setIfInBounds_toArray, List.set_cons_zero, List.set_cons_succ])
      (refine held_take (v := ?_) (d := some 94) 23 (by kernel_rfl) (by kernel_rfl) rfl ?_ ?_
       rotate_left
       · intro w hSw
         conv in opOf _ _ => whnf
         (try dsimp only at hSw)
         go_simp
         try (with_reducible rfl)
       try simp only [Act.put, List.setIfInBounds_toArray, List.set_cons_zero, List.set_cons_succ])
      (refine held_take (v := ?_) (d := some 4) 24 (by kernel_rfl) (by kernel_rfl) rfl ?_ ?_
       rotate_left
       · intro w hSw
         conv in opOf _ _ => whnf
         (try dsimp only at hSw)
         go_simp
         try (with_reducible rfl)
       try simp only [Act.put, List.setIfInBounds_toArray, List.set_cons_zero, List.set_cons_succ])
      refine held_done (by kernel_rfl) (fun hS => hR.out _ _ ?_)
      obtain ⟨hB5, _⟩ := hS
      go_wp2_with fail
      go_ret
      exact ⟨rfl, (((hb1.trans (hb2.mono (by omega))).trans (hb3.mono (by omega))).trans (hb4.mono (by omega))).trans (hB5.mono (by omega))⟩

set_option maxHeartbeats 1000000 in
theorem apart_110 (a b : Nat) (x y : Int) (na nb : ByteArray) (la lb : Int) (w : World) (hT : TabIs 0 w) (ha : (a : Int) < 43) (hb : (b : Int) < 43) (hab : ¬ a = b) (hla : 0 ≤ la ∧ la ≤ 255) (hlb : 0 ≤ lb ∧ lb ≤ 255)
    (hN : (na.toList == nb.toList) = false) (hX : decide (la + 2 < lb) = false) (hY : decide (lb + 2 < la) = true)
    (Hop : Hid (∀ w, TabIs 0 w → Calls Tryd.prog 28 #[] w fun e w' => ∃ g c, e = .returned (.slice (some ⟨g, 0, none⟩) 43 c) ∧ (43 ≤ c ∧ w.heap.size ≤ g ∧ g < w'.heap.size) ∧ (w'.cell? ⟨g, a * 3, none⟩ = some (.string na) ∧ w'.cell? ⟨g, a * 3 + 1, none⟩ = some (.int .u8 la) ∧
      w'.cell? ⟨g, b * 3, none⟩ = some (.string nb) ∧ w'.cell? ⟨g, b * 3 + 1, none⟩ = some (.int .u8 lb)) ∧ Below w.heap.size w w'))
    (Hwa : Hid (∀ w, Calls Tryd.prog 30 #[.int .i64 x, .int .i64 0, .int .i64 42] w fun e w' => e = .returned (.int .i64 a) ∧ w = w'))
    (Hwb : Hid (∀ w, Calls Tryd.prog 30 #[.int .i64 y, .int .i64 0, .int .i64 42] w fun e w' => e = .returned (.int .i64 b) ∧ w = w'))
    (Hfi : Hid (∀ w, TabIs 0 w → Calls Tryd.prog 15 #[.string na] w fun e w' => e = .returned (.tuple #[.int .i64 (a + 1), .bool true]) ∧ Below w.heap.size w w'))
    (Hsa : Hid (∀ w, TabIs 0 w → Calls Tryd.prog 19 #[.int .i64 (a + 1)] w fun e w' => e = .returned (.bool true) ∧ Below w.heap.size w w'))
    (Hsb : Hid (∀ w, TabIs 0 w → Calls Tryd.prog 19 #[.int .i64 (b + 1)] w fun e w' => e = .returned (.bool true) ∧ Below w.heap.size w w')) :
    Calls Tryd.prog 8 #[.int .i64 x, .int .i64 y] w fun e w' => e = .returned (.bool true) ∧ Below w.heap.size w w' := by
  obtain ⟨hla0, hla1⟩ := hla
  obtain ⟨hlb0, hlb1⟩ := hlb
  go_enter Tryd.func8, Tryd.ntmps8
  go_wp2_with (first
      | (go_at_call 28; refine (Hop.out _ hT).mono ?_; rintro e w1 ⟨g, c, rfl, ⟨hc, hg0, hg1⟩, ⟨hna, hla, hnb, hlb⟩, hb1⟩; have hT1 := hT.grow hb1; have hz1 := hb1.size)
      | (go_at_call 30; (with_reducible refine (Hwa.out _).mono ?_); rintro e w9 ⟨rfl, rfl⟩)
      | (go_at_call 30; (with_reducible refine (Hwb.out _).mono ?_); rintro e w9 ⟨rfl, rfl⟩)
      | (go_at_call 15; refine (Hfi.out _ hT1).mono ?_; rintro e w2 ⟨rfl, hb2⟩; have hT2 := hT1.grow hb2; have hz2 := hb2.size; obtain ⟨hc2, _⟩ := bcell hb2; have hna2 := (hc2 _ _ hg1).trans hna; have hla2 := (hc2 _ _ hg1).trans hla; have hnb2 := (hc2 _ _ hg1).trans hnb; have hlb2 := (hc2 _ _ hg1).trans hlb; have hg2 : g < w2.heap.size := (by omega))
      | (go_at_call 19; (with_reducible refine (Hsa.out _ hT2).mono ?_); rintro e w3 ⟨rfl, hb3⟩; have hT3 := hT2.grow hb3; have hz3 := hb3.size; obtain ⟨hc3, _⟩ := bcell hb3; have hna3 := (hc3 _ _ hg2).trans hna2; have hnb3 := (hc3 _ _ hg2).trans hnb2; have hlb3 := (hc3 _ _ hg2).trans hlb2; have hg3 : g < w3.heap.size := (by omega))
      | (go_at_call 19; (with_reducible refine (Hsb.out _ hT3).mono ?_); rintro e w4 ⟨rfl, hb4⟩; have hT4 := hT3.grow hb4; have hz4 := hb4.size; obtain ⟨hc4, _⟩ := bcell hb4; have hna4 := (hc4 _ _ hg3).trans hna3; have hnb4 := (hc4 _ _ hg3).trans hnb3; have hg4 : g < w4.heap.size := (by omega)))
  all_goals
      refine held_start (ops' := apartOps) (l0 := #[false, false, false, false, false, false, false, false, false, false, false, false, false, false, false, false, false, false, false, false, false, false, false, false, false]) (S := (fun w' => Below w4.heap.size w4 w' ∧ w'.cell? ⟨g, a * 3, none⟩ = some (.string na) ∧ w'.cell? ⟨g, b * 3, none⟩ = some (.string nb))) (by kernel_rfl) (by kernel_rfl) (by kernel_rfl) (by kernel_rfl) ⟨(Below.refl _ _).drew, hna4, hnb4⟩ (fun R hR => ?_)
      (refine held_take (v := ?_) (d := some 71) 0 (by kernel_rfl) (by kernel_rfl) rfl ?_ ?_
       rotate_left
       · intro w hSw
         conv in opOf _ _ => whnf
         (try dsimp only at hSw)
         go_simp
         try (with_reducible rfl)
       try simp only [Act.put, List.setIfInBounds_toArray, List.set_cons_zero, List.set_cons_succ])
      (refine held_take (v := ?_) (d := some 72) 1 (by kernel_rfl) (by kernel_rfl) rfl ?_ ?_
       rotate_left
       · intro w hSw
         conv in opOf _ _ => whnf
         (try dsimp only at hSw)
         go_simp
         try (with_reducible rfl)
       try simp only [Act.put, List.setIfInBounds_toArray, List.set_cons_zero, List.set_cons_succ])
      (refine held_take (v := ?_) (d := some 73) 2 (by kernel_rfl) (by kernel_rfl) rfl ?_ ?_
       rotate_left
       · intro w hSw
         conv in opOf _ _ => whnf
         (try dsimp only at hSw)
         go_simp
         try (with_reducible rfl)
       try simp only [Act.put, List.setIfInBounds_toArray, List.set_cons_zero, List.set_cons_succ])
      (refine held_take (v := ?_) (d := some 74) 3 (by kernel_rfl) (by kernel_rfl) rfl ?_ ?_
       rotate_left
       · intro w hSw
         conv in opOf _ _ => whnf
         (try dsimp only at hSw)
         go_simp
         try (with_reducible rfl)
       try simp only [Act.put, List.setIfInBounds_toArray, List.set_cons_zero, List.set_cons_succ])
      (refine held_take (v := ?_) (d := some 75) 4 (by kernel_rfl) (by kernel_rfl) rfl ?_ ?_
       rotate_left
       · intro w hSw
         conv in opOf _ _ => whnf
         (try dsimp only at hSw)
         go_simp
         try (with_reducible rfl)
       try simp only [Act.put, List.setIfInBounds_toArray, List.set_cons_zero, List.set_cons_succ])
      (refine held_take (v := ?_) (d := some 76) 5 (by kernel_rfl) (by kernel_rfl) rfl ?_ ?_
       rotate_left
       · intro w hSw
         conv in opOf _ _ => whnf
         (try dsimp only at hSw)
         go_simp
         try (with_reducible rfl)
       try simp only [Act.put, List.setIfInBounds_toArray, List.set_cons_zero, List.set_cons_succ])
      (refine held_take (v := ?_) (d := some 77) 6 (by kernel_rfl) (by kernel_rfl) rfl ?_ ?_
       rotate_left
       · intro w hSw
         conv in opOf _ _ => whnf
         (try dsimp only at hSw)
         go_simp
         try (with_reducible rfl)
       try simp only [Act.put, List.setIfInBounds_toArray, List.set_cons_zero, List.set_cons_succ])
      (refine held_take (v := ?_) (d := some 78) 7 (by kernel_rfl) (by kernel_rfl) rfl ?_ ?_
       rotate_left
       · intro w hSw
         conv in opOf _ _ => whnf
         (try dsimp only at hSw)
         go_simp
         try (with_reducible rfl)
       try simp only [Act.put, List.setIfInBounds_toArray, List.set_cons_zero, List.set_cons_succ])
      (refine held_take (v := ?_) (d := some 79) 8 (by kernel_rfl) (by kernel_rfl) rfl ?_ ?_
       rotate_left
       · intro w hSw
         conv in opOf _ _ => whnf
         (try dsimp only at hSw)
         go_simp
         try (with_reducible rfl)
       try simp only [Act.put, List.setIfInBounds_toArray, List.set_cons_zero, List.set_cons_succ])
      (refine held_take (v := ?_) (d := some 80) 9 (by kernel_rfl) (by kernel_rfl) rfl ?_ ?_
       rotate_left
       · intro w hSw
         conv in opOf _ _ => whnf
         (try dsimp only at hSw)
         go_simp
         try (with_reducible rfl)
       try simp only [Act.put, List.setIfInBounds_toArray, List.set_cons_zero, List.set_cons_succ])
      (refine held_take (v := ?_) (d := some 81) 10 (by kernel_rfl) (by kernel_rfl) rfl ?_ ?_
       rotate_left
       · intro w hSw
         conv in opOf _ _ => whnf
         (try dsimp only at hSw)
         go_simp
         try simp only [hN, Bool.not_false]
         try (with_reducible rfl)
       try simp only [Act.put, List.setIfInBounds_toArray, List.set_cons_zero, List.set_cons_succ])
      (refine held_take (v := ?_) (d := some 82) 11 (by kernel_rfl) (by kernel_rfl) rfl ?_ ?_
       rotate_left
       · intro w hSw
         conv in opOf _ _ => whnf
         (try dsimp only at hSw)
         go_simp
         try (with_reducible rfl)
       try simp only [Act.put, List.setIfInBounds_toArray, List.set_cons_zero, List.set_cons_succ])
      (refine held_take (v := ?_) (d := some 83) 12 (by kernel_rfl) (by kernel_rfl) rfl ?_ ?_
       rotate_left
       · intro w hSw
         conv in opOf _ _ => whnf
         (try dsimp only at hSw)
         go_simp
         try (with_reducible rfl)
       try simp only [Act.put, List.setIfInBounds_toArray, List.set_cons_zero, List.set_cons_succ])
      (refine held_take (v := ?_) (d := some 84) 13 (by kernel_rfl) (by kernel_rfl) rfl ?_ ?_
       rotate_left
       · intro w hSw
         conv in opOf _ _ => whnf
         (try dsimp only at hSw)
         go_simp
         try (with_reducible rfl)
       try simp only [Act.put, List.setIfInBounds_toArray, List.set_cons_zero, List.set_cons_succ])
      (refine held_take (v := ?_) (d := some 85) 14 (by kernel_rfl) (by kernel_rfl) rfl ?_ ?_
       rotate_left
       · intro w hSw
         conv in opOf _ _ => whnf
         (try dsimp only at hSw)
         go_simp
         try simp only [hX]
         try (with_reducible rfl)
       try simp only [Act.put, List.setIfInBounds_toArray, List.set_cons_zero, List.set_cons_succ])
      (refine held_take (v := ?_) (d := some 86) 15 (by kernel_rfl) (by kernel_rfl) rfl ?_ ?_
       rotate_left
       · intro w hSw
         conv in opOf _ _ => whnf
         (try dsimp only at hSw)
         go_simp
         try (with_reducible rfl)
       try simp only [Act.put, List.setIfInBounds_toArray, List.set_cons_zero, List.set_cons_succ])
      (refine held_take (v := ?_) (d := some 87) 16 (by kernel_rfl) (by kernel_rfl) rfl ?_ ?_
       rotate_left
       · intro w hSw
         conv in opOf _ _ => whnf
         (try dsimp only at hSw)
         go_simp
         try (with_reducible rfl)
       try simp only [Act.put, List.setIfInBounds_toArray, List.set_cons_zero, List.set_cons_succ])
      (refine held_take (v := ?_) (d := some 88) 17 (by kernel_rfl) (by kernel_rfl) rfl ?_ ?_
       rotate_left
       · intro w hSw
         conv in opOf _ _ => whnf
         (try dsimp only at hSw)
         go_simp
         try (with_reducible rfl)
       try simp only [Act.put, List.setIfInBounds_toArray, List.set_cons_zero, List.set_cons_succ])
      (refine held_take (v := ?_) (d := some 89) 18 (by kernel_rfl) (by kernel_rfl) rfl ?_ ?_
       rotate_left
       · intro w hSw
         conv in opOf _ _ => whnf
         (try dsimp only at hSw)
         go_simp
         try simp only [hY]
         try (with_reducible rfl)
       try simp only [Act.put, List.setIfInBounds_toArray, List.set_cons_zero, List.set_cons_succ])
      (refine held_take (v := ?_) (d := some 90) 19 (by kernel_rfl) (by kernel_rfl) rfl ?_ ?_
       rotate_left
       · intro w hSw
         conv in opOf _ _ => whnf
         (try dsimp only at hSw)
         go_simp
         try (with_reducible rfl)
       try simp only [Act.put, List.setIfInBounds_toArray, List.set_cons_zero, List.set_cons_succ])
      (refine held_take (v := ?_) (d := some 91) 20 (by kernel_rfl) (by kernel_rfl) rfl ?_ ?_
       rotate_left
       · intro w hSw
         conv in opOf _ _ => whnf
         (try dsimp only at hSw)
         go_simp
         try (with_reducible rfl)
       try simp only [Act.put, List.setIfInBounds_toArray, List.set_cons_zero, List.set_cons_succ])
      (refine held_take (v := ?_) (d := some 92) 21 (by kernel_rfl) (by kernel_rfl) rfl ?_ ?_
       rotate_left
       · intro w hSw
         conv in opOf _ _ => whnf
         (try dsimp only at hSw)
         go_simp
         try (with_reducible rfl)
       try simp only [Act.put, List.setIfInBounds_toArray, List.set_cons_zero, List.set_cons_succ])
      (refine held_one 22 (by kernel_rfl) (by kernel_rfl) (held_call (d := some 93) 22 (by kernel_rfl) (by kernel_rfl) rfl (fun hS => known5_any _ (tabHeld hT4 hS)) (by kernel_rfl) (fun w' hS hbb => ⟨held2 hS hg4 hg4 hbb, ?_⟩))
       try simp only [Act.put, List.setIfInBounds_toArray, List.set_cons_zero, List.set_cons_succ])
      (refine held_take (v := ?_) (d := some 94) 23 (by kernel_rfl) (by kernel_rfl) rfl ?_ ?_
       rotate_left
       · intro w hSw
         conv in opOf _ _ => whnf
         (try dsimp only at hSw)
         go_simp
         try (with_reducible rfl)
       try simp only [Act.put, List.setIfInBounds_toArray, List.set_cons_zero, List.set_cons_succ])
      (refine held_take (v := ?_) (d := some 4) 24 (by kernel_rfl) (by kernel_rfl) rfl ?_ ?_
       rotate_left
       · intro w hSw
         conv in opOf _ _ => whnf
         (try dsimp only at hSw)
         go_simp
         try (with_reducible rfl)
       try simp only [Act.put, List.setIfInBounds_toArray, List.set_cons_zero, List.set_cons_succ])
      refine held_done (by kernel_rfl) (fun hS => hR.out _ _ ?_)
      obtain ⟨hB5, _⟩ := hS
      go_wp2_with fail
      go_ret
      exact ⟨rfl, (((hb1.trans (hb2.mono (by omega))).trans (hb3.mono (by omega))).trans (hb4.mono (by omega))).trans (hB5.mono (by omega))⟩

set_option maxHeartbeats 1000000 in
theorem apart_111 (a b : Nat) (x y : Int) (na nb : ByteArray) (la lb : Int) (w : World) (hT : TabIs 0 w) (ha : (a : Int) < 43) (hb : (b : Int) < 43) (hab : ¬ a = b) (hla : 0 ≤ la ∧ la ≤ 255) (hlb : 0 ≤ lb ∧ lb ≤ 255)
    (hN : (na.toList == nb.toList) = false) (hX : decide (la + 2 < lb) = true) 
    (Hop : Hid (∀ w, TabIs 0 w → Calls Tryd.prog 28 #[] w fun e w' => ∃ g c, e = .returned (.slice (some ⟨g, 0, none⟩) 43 c) ∧ (43 ≤ c ∧ w.heap.size ≤ g ∧ g < w'.heap.size) ∧ (w'.cell? ⟨g, a * 3, none⟩ = some (.string na) ∧ w'.cell? ⟨g, a * 3 + 1, none⟩ = some (.int .u8 la) ∧
      w'.cell? ⟨g, b * 3, none⟩ = some (.string nb) ∧ w'.cell? ⟨g, b * 3 + 1, none⟩ = some (.int .u8 lb)) ∧ Below w.heap.size w w'))
    (Hwa : Hid (∀ w, Calls Tryd.prog 30 #[.int .i64 x, .int .i64 0, .int .i64 42] w fun e w' => e = .returned (.int .i64 a) ∧ w = w'))
    (Hwb : Hid (∀ w, Calls Tryd.prog 30 #[.int .i64 y, .int .i64 0, .int .i64 42] w fun e w' => e = .returned (.int .i64 b) ∧ w = w'))
    (Hfi : Hid (∀ w, TabIs 0 w → Calls Tryd.prog 15 #[.string na] w fun e w' => e = .returned (.tuple #[.int .i64 (a + 1), .bool true]) ∧ Below w.heap.size w w'))
    (Hsa : Hid (∀ w, TabIs 0 w → Calls Tryd.prog 19 #[.int .i64 (a + 1)] w fun e w' => e = .returned (.bool true) ∧ Below w.heap.size w w'))
    (Hsb : Hid (∀ w, TabIs 0 w → Calls Tryd.prog 19 #[.int .i64 (b + 1)] w fun e w' => e = .returned (.bool true) ∧ Below w.heap.size w w')) :
    Calls Tryd.prog 8 #[.int .i64 x, .int .i64 y] w fun e w' => e = .returned (.bool true) ∧ Below w.heap.size w w' := by
  obtain ⟨hla0, hla1⟩ := hla
  obtain ⟨hlb0, hlb1⟩ := hlb
  go_enter Tryd.func8, Tryd.ntmps8
  go_wp2_with (first
      | (go_at_call 28; refine (Hop.out _ hT).mono ?_; rintro e w1 ⟨g, c, rfl, ⟨hc, hg0, hg1⟩, ⟨hna, hla, hnb, hlb⟩, hb1⟩; have hT1 := hT.grow hb1; have hz1 := hb1.size)
      | (go_at_call 30; (with_reducible refine (Hwa.out _).mono ?_); rintro e w9 ⟨rfl, rfl⟩)
      | (go_at_call 30; (with_reducible refine (Hwb.out _).mono ?_); rintro e w9 ⟨rfl, rfl⟩)
      | (go_at_call 15; refine (Hfi.out _ hT1).mono ?_; rintro e w2 ⟨rfl, hb2⟩; have hT2 := hT1.grow hb2; have hz2 := hb2.size; obtain ⟨hc2, _⟩ := bcell hb2; have hna2 := (hc2 _ _ hg1).trans hna; have hla2 := (hc2 _ _ hg1).trans hla; have hnb2 := (hc2 _ _ hg1).trans hnb; have hlb2 := (hc2 _ _ hg1).trans hlb; have hg2 : g < w2.heap.size := (by omega))
      | (go_at_call 19; (with_reducible refine (Hsa.out _ hT2).mono ?_); rintro e w3 ⟨rfl, hb3⟩; have hT3 := hT2.grow hb3; have hz3 := hb3.size; obtain ⟨hc3, _⟩ := bcell hb3; have hna3 := (hc3 _ _ hg2).trans hna2; have hnb3 := (hc3 _ _ hg2).trans hnb2; have hlb3 := (hc3 _ _ hg2).trans hlb2; have hg3 : g < w3.heap.size := (by omega))
      | (go_at_call 19; (with_reducible refine (Hsb.out _ hT3).mono ?_); rintro e w4 ⟨rfl, hb4⟩; have hT4 := hT3.grow hb4; have hz4 := hb4.size; obtain ⟨hc4, _⟩ := bcell hb4; have hna4 := (hc4 _ _ hg3).trans hna3; have hnb4 := (hc4 _ _ hg3).trans hnb3; have hg4 : g < w4.heap.size := (by omega)))
  all_goals
      refine held_start (ops' := apartOps) (l0 := #[false, false, false, false, false, false, false, false, false, false, false, false, false, false, false, false, false, false, false, false, false, false, false, false, false]) (S := (fun w' => Below w4.heap.size w4 w' ∧ w'.cell? ⟨g, a * 3, none⟩ = some (.string na) ∧ w'.cell? ⟨g, b * 3, none⟩ = some (.string nb))) (by kernel_rfl) (by kernel_rfl) (by kernel_rfl) (by kernel_rfl) ⟨(Below.refl _ _).drew, hna4, hnb4⟩ (fun R hR => ?_)
      (refine held_take (v := ?_) (d := some 71) 0 (by kernel_rfl) (by kernel_rfl) rfl ?_ ?_
       rotate_left
       · intro w hSw
         conv in opOf _ _ => whnf
         (try dsimp only at hSw)
         go_simp
         try (with_reducible rfl)
       try simp only [Act.put, List.setIfInBounds_toArray, List.set_cons_zero, List.set_cons_succ])
      (refine held_take (v := ?_) (d := some 72) 1 (by kernel_rfl) (by kernel_rfl) rfl ?_ ?_
       rotate_left
       · intro w hSw
         conv in opOf _ _ => whnf
         (try dsimp only at hSw)
         go_simp
         try (with_reducible rfl)
       try simp only [Act.put, List.setIfInBounds_toArray, List.set_cons_zero, List.set_cons_succ])
      (refine held_take (v := ?_) (d := some 73) 2 (by kernel_rfl) (by kernel_rfl) rfl ?_ ?_
       rotate_left
       · intro w hSw
         conv in opOf _ _ => whnf
         (try dsimp only at hSw)
         go_simp
         try (with_reducible rfl)
       try simp only [Act.put, List.setIfInBounds_toArray, List.set_cons_zero, List.set_cons_succ])
      (refine held_take (v := ?_) (d := some 74) 3 (by kernel_rfl) (by kernel_rfl) rfl ?_ ?_
       rotate_left
       · intro w hSw
         conv in opOf _ _ => whnf
         (try dsimp only at hSw)
         go_simp
         try (with_reducible rfl)
       try simp only [Act.put, List.setIfInBounds_toArray, List.set_cons_zero, List.set_cons_succ])
      (refine held_take (v := ?_) (d := some 75) 4 (by kernel_rfl) (by kernel_rfl) rfl ?_ ?_
       rotate_left
       · intro w hSw
         conv in opOf _ _ => whnf
         (try dsimp only at hSw)
         go_simp
         try (with_reducible rfl)
       try simp only [Act.put, List.setIfInBounds_toArray, List.set_cons_zero, List.set_cons_succ])
      (refine held_take (v := ?_) (d := some 76) 5 (by kernel_rfl) (by kernel_rfl) rfl ?_ ?_
       rotate_left
       · intro w hSw
         conv in opOf _ _ => whnf
         (try dsimp only at hSw)
         go_simp
         try (with_reducible rfl)
       try simp only [Act.put, List.setIfInBounds_toArray, List.set_cons_zero, List.set_cons_succ])
      (refine held_take (v := ?_) (d := some 77) 6 (by kernel_rfl) (by kernel_rfl) rfl ?_ ?_
       rotate_left
       · intro w hSw
         conv in opOf _ _ => whnf
         (try dsimp only at hSw)
         go_simp
         try (with_reducible rfl)
       try simp only [Act.put, List.setIfInBounds_toArray, List.set_cons_zero, List.set_cons_succ])
      (refine held_take (v := ?_) (d := some 78) 7 (by kernel_rfl) (by kernel_rfl) rfl ?_ ?_
       rotate_left
       · intro w hSw
         conv in opOf _ _ => whnf
         (try dsimp only at hSw)
         go_simp
         try (with_reducible rfl)
       try simp only [Act.put, List.setIfInBounds_toArray, List.set_cons_zero, List.set_cons_succ])
      (refine held_take (v := ?_) (d := some 79) 8 (by kernel_rfl) (by kernel_rfl) rfl ?_ ?_
       rotate_left
       · intro w hSw
         conv in opOf _ _ => whnf
         (try dsimp only at hSw)
         go_simp
         try (with_reducible rfl)
       try simp only [Act.put, List.setIfInBounds_toArray, List.set_cons_zero, List.set_cons_succ])
      (refine held_take (v := ?_) (d := some 80) 9 (by kernel_rfl) (by kernel_rfl) rfl ?_ ?_
       rotate_left
       · intro w hSw
         conv in opOf _ _ => whnf
         (try dsimp only at hSw)
         go_simp
         try (with_reducible rfl)
       try simp only [Act.put, List.setIfInBounds_toArray, List.set_cons_zero, List.set_cons_succ])
      (refine held_take (v := ?_) (d := some 81) 10 (by kernel_rfl) (by kernel_rfl) rfl ?_ ?_
       rotate_left
       · intro w hSw
         conv in opOf _ _ => whnf
         (try dsimp only at hSw)
         go_simp
         try simp only [hN, Bool.not_false]
         try (with_reducible rfl)
       try simp only [Act.put, List.setIfInBounds_toArray, List.set_cons_zero, List.set_cons_succ])
      (refine held_take (v := ?_) (d := some 82) 11 (by kernel_rfl) (by kernel_rfl) rfl ?_ ?_
       rotate_left
       · intro w hSw
         conv in opOf _ _ => whnf
         (try dsimp only at hSw)
         go_simp
         try (with_reducible rfl)
       try simp only [Act.put, List.setIfInBounds_toArray, List.set_cons_zero, List.set_cons_succ])
      (refine held_take (v := ?_) (d := some 83) 12 (by kernel_rfl) (by kernel_rfl) rfl ?_ ?_
       rotate_left
       · intro w hSw
         conv in opOf _ _ => whnf
         (try dsimp only at hSw)
         go_simp
         try (with_reducible rfl)
       try simp only [Act.put, List.setIfInBounds_toArray, List.set_cons_zero, List.set_cons_succ])
      (refine held_take (v := ?_) (d := some 84) 13 (by kernel_rfl) (by kernel_rfl) rfl ?_ ?_
       rotate_left
       · intro w hSw
         conv in opOf _ _ => whnf
         (try dsimp only at hSw)
         go_simp
         try (with_reducible rfl)
       try simp only [Act.put, List.setIfInBounds_toArray, List.set_cons_zero, List.set_cons_succ])
      (refine held_take (v := ?_) (d := some 85) 14 (by kernel_rfl) (by kernel_rfl) rfl ?_ ?_
       rotate_left
       · intro w hSw
         conv in opOf _ _ => whnf
         (try dsimp only at hSw)
         go_simp
         try simp only [hX]
         try (with_reducible rfl)
       try simp only [Act.put, List.setIfInBounds_toArray, List.set_cons_zero, List.set_cons_succ])
      (refine held_take (v := ?_) (d := some 86) 15 (by kernel_rfl) (by kernel_rfl) rfl ?_ ?_
       rotate_left
       · intro w hSw
         conv in opOf _ _ => whnf
         (try dsimp only at hSw)
         go_simp
         try (with_reducible rfl)
       try simp only [Act.put, List.setIfInBounds_toArray, List.set_cons_zero, List.set_cons_succ])
      (refine held_skip (d := some 87) 16 (by kernel_rfl) (by kernel_rfl) rfl ?_
       try simp only [Act.put, List.setIfInBounds_toArray, List.set_cons_zero, List.set_cons_succ])
      (refine held_skip (d := some 88) 17 (by kernel_rfl) (by kernel_rfl) rfl ?_
       try simp only [Act.put, List.setIfInBounds_toArray, List.set_cons_zero, List.set_cons_succ])
      (refine held_skip (d := some 89) 18 (by kernel_rfl) (by kernel_rfl) rfl ?_
       try simp only [Act.put, List.setIfInBounds_toArray, List.set_cons_zero, List.set_cons_succ])
      (refine held_take (v := ?_) (d := some 90) 19 (by kernel_rfl) (by kernel_rfl) rfl ?_ ?_
       rotate_left
       · intro w hSw
         conv in opOf _ _ => whnf
         (try dsimp only at hSw)
         go_simp
         try (with_reducible rfl)
       try simp only [Act.put, List.setIfInBounds_toArray, List.set_cons_zero, List.set_cons_succ])
      (refine held_take (v := ?_) (d := some 91) 20 (by kernel_rfl) (by kernel_rfl) rfl ?_ ?_
       rotate_left
       · intro w hSw
         conv in opOf _ _ => whnf
         (try dsimp only at hSw)
         go_simp
         try (with_reducible rfl)
       try simp only [Act.put, List.setIfInBounds_toArray, List.set_cons_zero, List.set_cons_succ])
      (refine held_take (v := ?_) (d := some 92) 21 (by kernel_rfl) (by kernel_rfl) rfl ?_ ?_
       rotate_left
       · intro w hSw
         conv in opOf _ _ => whnf
         (try dsimp only at hSw)
         go_simp
         try (with_reducible rfl)
       try simp only [Act.put, List.setIfInBounds_toArray, List.set_cons_zero, List.set_cons_succ])
      (refine held_one 22 (by kernel_rfl) (by kernel_rfl) (held_call (d := some 93) 22 (by kernel_rfl) (by kernel_rfl) rfl (fun hS => known5_any _ (tabHeld hT4 hS)) (by kernel_rfl) (fun w' hS hbb => ⟨held2 hS hg4 hg4 hbb, ?_⟩))
       try simp only [Act.put, List.setIfInBounds_toArray, List.set_cons_zero, List.set_cons_succ])
      (refine held_take (v := ?_) (d := some 94) 23 (by kernel_rfl) (by kernel_rfl) rfl ?_ ?_
       rotate_left
       · intro w hSw
         conv in opOf _ _ => whnf
         (try dsimp only at hSw)
         go_simp
         try (with_reducible rfl)
       try simp only [Act.put, List.setIfInBounds_toArray, List.set_cons_zero, List.set_cons_succ])
      (refine held_take (v := ?_) (d := some 4) 24 (by kernel_rfl) (by kernel_rfl) rfl ?_ ?_
       rotate_left
       · intro w hSw
         conv in opOf _ _ => whnf
         (try dsimp only at hSw)
         go_simp
         try (with_reducible rfl)
       try simp only [Act.put, List.setIfInBounds_toArray, List.set_cons_zero, List.set_cons_succ])
      refine held_done (by kernel_rfl) (fun hS => hR.out _ _ ?_)
      obtain ⟨hB5, _⟩ := hS
      go_wp2_with fail
      go_ret
      exact ⟨rfl, (((hb1.trans (hb2.mono (by omega))).trans (hb3.mono (by omega))).trans (hb4.mono (by omega))).trans (hB5.mono (by omega))⟩

theorem apart_plain : ∀ a : Nat, a < 43 → ∀ b : Nat, b < 43 → a ≠ b → opName ((a : Int) + 1) ≠ opName ((b : Int) + 1) ∧
    (decide (opByte ((a : Int) + 1) + (if spansB ((a : Int) + 1) then 2 else 0) < opByte ((b : Int) + 1)) = true ∨ decide (opByte ((b : Int) + 1) + (if spansB ((b : Int) + 1) then 2 else 0) < opByte ((a : Int) + 1)) = true) := by decide +kernel
theorem byte_bounds : ∀ a : Nat, a < 43 → 0 ≤ opByte ((a : Int) + 1) ∧ opByte ((a : Int) + 1) ≤ 255 := by decide +kernel
theorem find_own : ∀ a : Nat, a < 43 → findR (opName ((a : Int) + 1)) = (a : Int) + 1 := by decide +kernel
theorem within_nat (x : Int) (w : World) (b : -9223372036854775808 ≤ x ∧ x ≤ 9223372036854775807) : ∃ a : Nat, a < 43 ∧ ∀ w, Calls Tryd.prog 30 #[.int .i64 x, .int .i64 0, .int .i64 42] w fun e w' => e = .returned (.int .i64 a) ∧ w = w' := by
  obtain ⟨r, h0, h1, h⟩ := within_val x 42 b.1 b.2 (by omega) (by omega)
  refine ⟨r.toNat, by omega, fun w => ?_⟩
  rw [show ((r.toNat : Nat) : Int) = r by omega]
  exact h w
theorem has_cells {W : World} {g : Nat} (h : Has W g 0 tabCells) (k : Nat) (hk : k < 43) :
    W.cell? ⟨g, k * 3, none⟩ = some (.string ⟨(opName ((k : Int) + 1)).toArray⟩) ∧ W.cell? ⟨g, k * 3 + 1, none⟩ = some (.int .u8 (opByte ((k : Int) + 1))) ∧ W.cell? ⟨g, k * 3 + 2, none⟩ = some (.int .i64 (opShape ((k : Int) + 1))) := by
  have c : ∀ j v, j < 3 → (opCells (opAt ((k : Int) + 1)))[j]? = some v → W.cell? ⟨g, k * 3 + j, none⟩ = some v := by
    intro j v hj hv
    have := h (k * 3 + j) v (by rw [tab_cell k hk j hj, ← opAt_yes k hk]; exact hv)
    rwa [Nat.zero_add] at this
  exact ⟨c 0 _ (by omega) rfl, c 1 _ (by omega) rfl, c 2 _ (by omega) rfl⟩
theorem walk (w : World) (x : Int) (b1 : -9223372036854775808 ≤ x ∧ x ≤ 9223372036854775807) (y : Int) (b2 : -9223372036854775808 ≤ y ∧ y ≤ 9223372036854775807) (hT : TabIs 0 w) :
    Calls Tryd.prog 8 #[.int .i64 x, .int .i64 y] w fun e w' => e = .returned (.bool true) ∧ Below w.heap.size w w' := by
  obtain ⟨a, ha, hwa⟩ := within_nat x w b1
  obtain ⟨b, hb, hwb⟩ := within_nat y w b2
  have hfi : ∀ w, TabIs 0 w → Calls Tryd.prog 15 #[.string ⟨(opName ((a : Int) + 1)).toArray⟩] w fun e w' => e = .returned (.tuple #[.int .i64 ((a : Int) + 1), .bool true]) ∧ Below w.heap.size w w' := by
    intro w hT
    have h := find_any ⟨(opName ((a : Int) + 1)).toArray⟩ w hT
    have e0 : (⟨(opName ((a : Int) + 1)).toArray⟩ : ByteArray).toList = opName ((a : Int) + 1) := by simp
    have e2 : decide (0 < (a : Int) + 1) = true := decide_eq_true (by omega)
    rw [e0, find_own a ha, e2] at h
    exact h
  by_cases hab : a = b
  · subst hab
    refine apart_eq a x y ⟨(opName ((a : Int) + 1)).toArray⟩ (opByte ((a : Int) + 1)) w hT (by omega) (Lib.hid fun w hT => ?_) (Lib.hid hwa) (Lib.hid hwb) (Lib.hid hfi)
    refine (ops_any w hT).mono ?_
    rintro e w' ⟨g, c, rfl, h1, h2, h3, h4, h5⟩
    obtain ⟨c1, c2, _⟩ := has_cells h4 a ha
    exact ⟨g, c, rfl, ⟨h1, h2, h3⟩, ⟨c1, c2⟩, h5⟩
  · have hops : ∀ w, TabIs 0 w → Calls Tryd.prog 28 #[] w fun e w' => ∃ g c, e = .returned (.slice (some ⟨g, 0, none⟩) 43 c) ∧ (43 ≤ c ∧ w.heap.size ≤ g ∧ g < w'.heap.size) ∧ (w'.cell? ⟨g, a * 3, none⟩ = some (.string ⟨(opName ((a : Int) + 1)).toArray⟩) ∧ w'.cell? ⟨g, a * 3 + 1, none⟩ = some (.int .u8 (opByte ((a : Int) + 1))) ∧
        w'.cell? ⟨g, b * 3, none⟩ = some (.string ⟨(opName ((b : Int) + 1)).toArray⟩) ∧ w'.cell? ⟨g, b * 3 + 1, none⟩ = some (.int .u8 (opByte ((b : Int) + 1)))) ∧ Below w.heap.size w w' := by
      intro w hT
      refine (ops_any w hT).mono ?_
      rintro e w' ⟨g, c, rfl, h1, h2, h3, h4, h5⟩
      obtain ⟨c1, c2, _⟩ := has_cells h4 a ha
      obtain ⟨c3, c4, _⟩ := has_cells h4 b hb
      exact ⟨g, c, rfl, ⟨h1, h2, h3⟩, ⟨c1, c2, c3, c4⟩, h5⟩
    obtain ⟨p1, p2⟩ := apart_plain a ha b hb hab
    have hN : ((⟨(opName ((a : Int) + 1)).toArray⟩ : ByteArray).toList == (⟨(opName ((b : Int) + 1)).toArray⟩ : ByteArray).toList) = false := by
      rw [beq_eq_false_iff_ne]
      simpa using p1
    have hsa := fun w hT => spans_any ((a : Int) + 1) w hT
    have hsb := fun w hT => spans_any ((b : Int) + 1) w hT
    have B1 := byte_bounds a ha
    have B2 := byte_bounds b hb
    generalize opByte ((a : Int) + 1) = la at *
    generalize opByte ((b : Int) + 1) = lb at *
    generalize spansB ((a : Int) + 1) = SA at *
    generalize spansB ((b : Int) + 1) = SB at *
    have hA : (a : Int) < 43 := by omega
    have hB : (b : Int) < 43 := by omega
    cases SA <;> cases SB <;> simp only [Bool.false_eq_true, if_false, if_true, Int.add_zero] at p2
    · cases hX : decide (la < lb)
      · exact apart_000 a b x y _ _ la lb w hT hA hB hab B1 B2 hN hX (by simpa [hX] using p2) (Lib.hid hops) (Lib.hid hwa) (Lib.hid hwb) (Lib.hid hfi) (Lib.hid hsa) (Lib.hid hsb)
      · exact apart_001 a b x y _ _ la lb w hT hA hB hab B1 B2 hN hX (Lib.hid hops) (Lib.hid hwa) (Lib.hid hwb) (Lib.hid hfi) (Lib.hid hsa) (Lib.hid hsb)
    · cases hX : decide (la < lb)
      · exact apart_010 a b x y _ _ la lb w hT hA hB hab B1 B2 hN hX (by simpa [hX] using p2) (Lib.hid hops) (Lib.hid hwa) (Lib.hid hwb) (Lib.hid hfi) (Lib.hid hsa) (Lib.hid hsb)
      · exact apart_011 a b x y _ _ la lb w hT hA hB hab B1 B2 hN hX (Lib.hid hops) (Lib.hid hwa) (Lib.hid hwb) (Lib.hid hfi) (Lib.hid hsa) (Lib.hid hsb)
    · cases hX : decide (la + 2 < lb)
      · exact apart_100 a b x y _ _ la lb w hT hA hB hab B1 B2 hN hX (by simpa [hX] using p2) (Lib.hid hops) (Lib.hid hwa) (Lib.hid hwb) (Lib.hid hfi) (Lib.hid hsa) (Lib.hid hsb)
      · exact apart_101 a b x y _ _ la lb w hT hA hB hab B1 B2 hN hX (Lib.hid hops) (Lib.hid hwa) (Lib.hid hwb) (Lib.hid hfi) (Lib.hid hsa) (Lib.hid hsb)
    · cases hX : decide (la + 2 < lb)
      · exact apart_110 a b x y _ _ la lb w hT hA hB hab B1 B2 hN hX (by simpa [hX] using p2) (Lib.hid hops) (Lib.hid hwa) (Lib.hid hwb) (Lib.hid hfi) (Lib.hid hsa) (Lib.hid hsb)
      · exact apart_111 a b x y _ _ la lb w hT hA hB hab B1 B2 hN hX (Lib.hid hops) (Lib.hid hwa) (Lib.hid hwb) (Lib.hid hfi) (Lib.hid hsa) (Lib.hid hsb)
end Go.Proofs.YtfplkmldleigpaaDoor.isaApart
