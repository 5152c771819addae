/- Law IsaAsks: what is asked of any name and any numbers. Conditions: none. -/
import Derived.Test.YtfplkmldleigpaaDoorB10
import Derived.Test.YtfplkmldleigpaaDoorR1
namespace Go.Proofs.YtfplkmldleigpaaDoor.isaAsks
open Go.RowKit
set_option linter.unusedVariables false
set_option linter.unusedSimpArgs false

theorem tabHeld {P : Prop} {g : Nat} {w0 w1 : World} (hT : TabIs g w0) (h : Below w0.heap.size w0 w1 ∧ P) : TabIs g w1 := hT.grow h.1
theorem held3 {w0 w1 w2 : World} {g : Nat} {a b c : Value} (h : Below w0.heap.size w0 w1 ∧ w1.cell? ⟨g, 0, none⟩ = some a ∧ w1.cell? ⟨g, 1, none⟩ = some b ∧ w1.cell? ⟨g, 2, none⟩ = some c) (hg : g < w0.heap.size) (hb : Below w1.heap.size w1 w2) :
    Below w0.heap.size w0 w2 ∧ w2.cell? ⟨g, 0, none⟩ = some a ∧ w2.cell? ⟨g, 1, none⟩ = some b ∧ w2.cell? ⟨g, 2, none⟩ = some c := by
  obtain ⟨h1, h2, h3, h4⟩ := h
  have hz := h1.size
  obtain ⟨hc, _⟩ := bcell hb
  exact ⟨h1.trans (hb.mono hz), (hc _ _ (by omega)).trans h2, (hc _ _ (by omega)).trans h3, (hc _ _ (by omega)).trans h4⟩
noncomputable def asksOps : Array Oper := regOf Tryd.f3.body 4

set_option maxHeartbeats 4000000 in
theorem asks_no (s : ByteArray) (op n f k : Int) (K SB FB : Bool) (w : World) (hT : TabIs 0 w) (hK : decide (0 < k) = K)
    (Hfi : Hid (∀ w, TabIs 0 w → Calls Tryd.prog 15 #[.string s] w fun e w' => e = .returned (.tuple #[.int .i64 k, .bool K]) ∧ Below w.heap.size w w'))
    (Hrf : Hid (∀ w, Calls Tryd.prog 17 #[.string s] w fun e w' => e = .returned (.int .i64 k) ∧ Below w.heap.size w w'))
    (Hat : Hid (∀ w, TabIs 0 w → Calls Tryd.prog 16 #[.int .i64 op] w fun e w' => e = .returned (.tuple #[.agg #[.string ⟨#[]⟩, .int .u8 0, .int .i64 0], .bool false]) ∧ Below w.heap.size w w'))
    (Hsh : Hid (∀ w, Calls Tryd.prog 18 #[.int .i64 op] w fun e w' => e = .returned (.int .i64 0) ∧ Below w.heap.size w w'))
    (Hsp : Hid (∀ w, TabIs 0 w → Calls Tryd.prog 19 #[.int .i64 op] w fun e w' => e = .returned (.bool SB) ∧ Below w.heap.size w w'))
    (Hrs : Hid (∀ w, Calls Tryd.prog 20 #[.int .i64 op] w fun e w' => e = .returned (.bool SB) ∧ Below w.heap.size w w'))
    (Hre : Hid (∀ w, Calls Tryd.prog 21 #[.int .i32 n, .int .i64 f] w fun e w' => e = .returned (.bool FB) ∧ w = w'))
    (Hff : Hid (∀ w, Calls Tryd.prog 22 #[.int .i32 n, .int .i64 f] w fun e w' => e = .returned (.bool FB) ∧ w = w')) :
    Calls Tryd.prog 3 #[.string s, .int .i64 op, .int .i32 n, .int .i64 f] w fun e w' => e = .returned (.bool true) ∧ Below w.heap.size w w' := by
  cases K
  all_goals
    go_enter Tryd.func3, Tryd.ntmps3
    go_wp2_with (first
      | (go_at_call 15; refine (Hfi.out _ hT).mono ?_; rintro e w1 ⟨rfl, hb1⟩; have hT1 := hT.grow hb1; have hz1 := hb1.size)
      | (go_at_call 16; refine (Hat.out _ hT1).mono ?_; rintro e w2 ⟨rfl, hb2⟩; have hT2 := hT1.grow hb2; have hz2 := hb2.size)
      | (go_at_call 17; refine (Hrf.out _).mono ?_; rintro e w3 ⟨rfl, hb3⟩; have hT3 := (hT2.alloc _).grow hb3; have hz3 : w2.heap.size < w3.heap.size := (by have := hb3.size; simp at this; omega); obtain ⟨hc3, _⟩ := bcell hb3; have hx0 : w3.cell? ⟨w2.heap.size, 0, none⟩ = some (.string ⟨#[]⟩) := (by rw [hc3 _ _ (by simp)]; exact (Blk.new w2 _ _).cell 0); have hx1 : w3.cell? ⟨w2.heap.size, 1, none⟩ = some (.int .u8 0) := (by rw [hc3 _ _ (by simp)]; exact (Blk.new w2 _ _).cell 1); have hx2 : w3.cell? ⟨w2.heap.size, 2, none⟩ = some (.int .i64 0) := (by rw [hc3 _ _ (by simp)]; exact (Blk.new w2 _ _).cell 2)))
    refine held_start (ops' := asksOps) (l0 := #[false, false, false, false, false, false, false, false, false, false, false, false, false, false, false, false, false, false, false, false, false, false, false, false, false, false, false, false, false, false, false, false, false, false, false]) (S := (fun w' => Below w3.heap.size w3 w' ∧ w'.cell? ⟨w2.heap.size, 0, none⟩ = some (.string ⟨#[]⟩) ∧ w'.cell? ⟨w2.heap.size, 1, none⟩ = some (.int .u8 0) ∧ w'.cell? ⟨w2.heap.size, 2, none⟩ = some (.int .i64 0))) (by kernel_rfl) (by kernel_rfl) (by kernel_rfl) (by kernel_rfl) ⟨(Below.refl _ _).drew, hx0, hx1, hx2⟩ (fun R hR => ?_)
    (refine held_take (v := ?_) (d := some 26) 0 (by kernel_rfl) (by kernel_rfl) rfl ?_ ?_
     rotate_left
     · intro w hSw
       conv in opOf _ _ => whnf
       (try dsimp only at hSw)
       go_simp
       try (with_reducible rfl)
     try simp only [Act.put, List.setIfInBounds_toArray, List.set_cons_zero, List.set_cons_succ])
    (refine held_take (v := ?_) (d := some 27) 1 (by kernel_rfl) (by kernel_rfl) rfl ?_ ?_
     rotate_left
     · intro w hSw
       conv in opOf _ _ => whnf
       (try dsimp only at hSw)
       go_simp
       try (with_reducible rfl)
     try simp only [Act.put, List.setIfInBounds_toArray, List.set_cons_zero, List.set_cons_succ])
    (refine held_take (v := ?_) (d := some 28) 2 (by kernel_rfl) (by kernel_rfl) rfl ?_ ?_
     rotate_left
     · intro w hSw
       conv in opOf _ _ => whnf
       (try dsimp only at hSw)
       go_simp
       try (with_reducible rfl)
     try simp only [Act.put, List.setIfInBounds_toArray, List.set_cons_zero, List.set_cons_succ])
    (refine held_take (v := ?_) (d := some 29) 3 (by kernel_rfl) (by kernel_rfl) rfl ?_ ?_
     rotate_left
     · intro w hSw
       conv in opOf _ _ => whnf
       (try dsimp only at hSw)
       go_simp
       try (with_reducible rfl)
     try simp only [Act.put, List.setIfInBounds_toArray, List.set_cons_zero, List.set_cons_succ])
    (refine held_take (v := ?_) (d := some 30) 4 (by kernel_rfl) (by kernel_rfl) rfl ?_ ?_
     rotate_left
     · intro w hSw
       conv in opOf _ _ => whnf
       (try dsimp only at hSw)
       go_simp
       try (with_reducible rfl)
     try simp only [Act.put, List.setIfInBounds_toArray, List.set_cons_zero, List.set_cons_succ])
    (refine held_take (v := ?_) (d := some 31) 5 (by kernel_rfl) (by kernel_rfl) rfl ?_ ?_
     rotate_left
     · intro w hSw
       conv in opOf _ _ => whnf
       (try dsimp only at hSw)
       go_simp
       try (with_reducible rfl)
     try simp only [Act.put, List.setIfInBounds_toArray, List.set_cons_zero, List.set_cons_succ])
    (refine held_take (v := ?_) (d := some 32) 6 (by kernel_rfl) (by kernel_rfl) rfl ?_ ?_
     rotate_left
     · intro w hSw
       conv in opOf _ _ => whnf
       (try dsimp only at hSw)
       go_simp
       try (with_reducible rfl)
     try simp only [Act.put, List.setIfInBounds_toArray, List.set_cons_zero, List.set_cons_succ])
    (refine held_take (v := ?_) (d := some 33) 7 (by kernel_rfl) (by kernel_rfl) rfl ?_ ?_
     rotate_left
     · intro w hSw
       conv in opOf _ _ => whnf
       (try dsimp only at hSw)
       go_simp
       try (with_reducible rfl)
     try simp only [Act.put, List.setIfInBounds_toArray, List.set_cons_zero, List.set_cons_succ])
    (refine held_take (v := ?_) (d := some 34) 8 (by kernel_rfl) (by kernel_rfl) rfl ?_ ?_
     rotate_left
     · intro w hSw
       conv in opOf _ _ => whnf
       (try dsimp only at hSw)
       go_simp
       try (with_reducible rfl)
     try simp only [Act.put, List.setIfInBounds_toArray, List.set_cons_zero, List.set_cons_succ])
    (refine held_take (v := ?_) (d := some 35) 9 (by kernel_rfl) (by kernel_rfl) rfl ?_ ?_
     rotate_left
     · intro w hSw
       conv in opOf _ _ => whnf
       (try dsimp only at hSw)
       go_simp
       try (with_reducible rfl)
     try simp only [Act.put, List.setIfInBounds_toArray, List.set_cons_zero, List.set_cons_succ])
    (refine held_take (v := ?_) (d := some 36) 10 (by kernel_rfl) (by kernel_rfl) rfl ?_ ?_
     rotate_left
     · intro w hSw
       conv in opOf _ _ => whnf
       (try dsimp only at hSw)
       go_simp
       try (with_reducible rfl)
     try simp only [Act.put, List.setIfInBounds_toArray, List.set_cons_zero, List.set_cons_succ])
    (refine held_take (v := ?_) (d := some 37) 11 (by kernel_rfl) (by kernel_rfl) rfl ?_ ?_
     rotate_left
     · intro w hSw
       conv in opOf _ _ => whnf
       (try dsimp only at hSw)
       go_simp
       try (with_reducible rfl)
     try simp only [Act.put, List.setIfInBounds_toArray, List.set_cons_zero, List.set_cons_succ])
    (refine held_one 12 (by kernel_rfl) (by kernel_rfl) (held_call (d := some 38) 12 (by kernel_rfl) (by kernel_rfl) rfl (fun hS => Hsh.out _) (by kernel_rfl) (fun w' hS hbb => ⟨held3 hS (by assumption) hbb, ?_⟩))
     try simp only [Act.put, List.setIfInBounds_toArray, List.set_cons_zero, List.set_cons_succ])
    (refine held_take (v := ?_) (d := some 39) 13 (by kernel_rfl) (by kernel_rfl) rfl ?_ ?_
     rotate_left
     · intro w hSw
       conv in opOf _ _ => whnf
       (try dsimp only at hSw)
       go_simp
       try (with_reducible rfl)
     try simp only [Act.put, List.setIfInBounds_toArray, List.set_cons_zero, List.set_cons_succ])
    (refine held_take (v := ?_) (d := some 40) 14 (by kernel_rfl) (by kernel_rfl) rfl ?_ ?_
     rotate_left
     · intro w hSw
       conv in opOf _ _ => whnf
       (try dsimp only at hSw)
       go_simp
       try (with_reducible rfl)
     try simp only [Act.put, List.setIfInBounds_toArray, List.set_cons_zero, List.set_cons_succ])
    (refine held_take (v := ?_) (d := some 41) 15 (by kernel_rfl) (by kernel_rfl) rfl ?_ ?_
     rotate_left
     · intro w hSw
       conv in opOf _ _ => whnf
       (try dsimp only at hSw)
       go_simp
       try (with_reducible rfl)
     try simp only [Act.put, List.setIfInBounds_toArray, List.set_cons_zero, List.set_cons_succ])
    (refine held_take (v := ?_) (d := some 42) 16 (by kernel_rfl) (by kernel_rfl) rfl ?_ ?_
     rotate_left
     · intro w hSw
       conv in opOf _ _ => whnf
       (try dsimp only at hSw)
       go_simp
       try (with_reducible rfl)
     try simp only [Act.put, List.setIfInBounds_toArray, List.set_cons_zero, List.set_cons_succ])
    (refine held_take (v := ?_) (d := some 43) 17 (by kernel_rfl) (by kernel_rfl) rfl ?_ ?_
     rotate_left
     · intro w hSw
       conv in opOf _ _ => whnf
       (try dsimp only at hSw)
       go_simp
       try (with_reducible rfl)
     try simp only [Act.put, List.setIfInBounds_toArray, List.set_cons_zero, List.set_cons_succ])
    (refine held_take (v := ?_) (d := some 44) 18 (by kernel_rfl) (by kernel_rfl) rfl ?_ ?_
     rotate_left
     · intro w hSw
       conv in opOf _ _ => whnf
       (try dsimp only at hSw)
       go_simp
       try (with_reducible rfl)
     try simp only [Act.put, List.setIfInBounds_toArray, List.set_cons_zero, List.set_cons_succ])
    (refine held_skip (d := some 45) 19 (by kernel_rfl) (by kernel_rfl) rfl ?_
     try simp only [Act.put, List.setIfInBounds_toArray, List.set_cons_zero, List.set_cons_succ])
    (refine held_skip (d := some 46) 20 (by kernel_rfl) (by kernel_rfl) rfl ?_
     try simp only [Act.put, List.setIfInBounds_toArray, List.set_cons_zero, List.set_cons_succ])
    (refine held_skip (d := some 47) 21 (by kernel_rfl) (by kernel_rfl) rfl ?_
     try simp only [Act.put, List.setIfInBounds_toArray, List.set_cons_zero, List.set_cons_succ])
    (refine held_skip (d := some 48) 22 (by kernel_rfl) (by kernel_rfl) rfl ?_
     try simp only [Act.put, List.setIfInBounds_toArray, List.set_cons_zero, List.set_cons_succ])
    (refine held_skip (d := some 49) 23 (by kernel_rfl) (by kernel_rfl) rfl ?_
     try simp only [Act.put, List.setIfInBounds_toArray, List.set_cons_zero, List.set_cons_succ])
    (refine held_take (v := ?_) (d := some 50) 24 (by kernel_rfl) (by kernel_rfl) rfl ?_ ?_
     rotate_left
     · intro w hSw
       conv in opOf _ _ => whnf
       (try dsimp only at hSw)
       go_simp
       try (with_reducible rfl)
     try simp only [Act.put, List.setIfInBounds_toArray, List.set_cons_zero, List.set_cons_succ])
    (refine held_take (v := ?_) (d := some 51) 25 (by kernel_rfl) (by kernel_rfl) rfl ?_ ?_
     rotate_left
     · intro w hSw
       conv in opOf _ _ => whnf
       (try dsimp only at hSw)
       go_simp
       try (with_reducible rfl)
     try simp only [Act.put, List.setIfInBounds_toArray, List.set_cons_zero, List.set_cons_succ])
    (refine held_take (v := ?_) (d := some 52) 26 (by kernel_rfl) (by kernel_rfl) rfl ?_ ?_
     rotate_left
     · intro w hSw
       conv in opOf _ _ => whnf
       (try dsimp only at hSw)
       go_simp
       try (with_reducible rfl)
     try simp only [Act.put, List.setIfInBounds_toArray, List.set_cons_zero, List.set_cons_succ])
    (refine held_take (v := ?_) (d := some 53) 27 (by kernel_rfl) (by kernel_rfl) rfl ?_ ?_
     rotate_left
     · intro w hSw
       conv in opOf _ _ => whnf
       (try dsimp only at hSw)
       go_simp
       try (with_reducible rfl)
     try simp only [Act.put, List.setIfInBounds_toArray, List.set_cons_zero, List.set_cons_succ])
    (refine held_take (v := ?_) (d := some 54) 28 (by kernel_rfl) (by kernel_rfl) rfl ?_ ?_
     rotate_left
     · intro w hSw
       conv in opOf _ _ => whnf
       (try dsimp only at hSw)
       go_simp
       try (with_reducible rfl)
     try simp only [Act.put, List.setIfInBounds_toArray, List.set_cons_zero, List.set_cons_succ])
    (refine held_take (v := ?_) (d := some 55) 29 (by kernel_rfl) (by kernel_rfl) rfl ?_ ?_
     rotate_left
     · intro w hSw
       conv in opOf _ _ => whnf
       (try dsimp only at hSw)
       go_simp
       try (with_reducible rfl)
     try simp only [Act.put, List.setIfInBounds_toArray, List.set_cons_zero, List.set_cons_succ])
    (refine held_take (v := ?_) (d := some 56) 30 (by kernel_rfl) (by kernel_rfl) rfl ?_ ?_
     rotate_left
     · intro w hSw
       conv in opOf _ _ => whnf
       (try dsimp only at hSw)
       go_simp
       try (with_reducible rfl)
     try simp only [Act.put, List.setIfInBounds_toArray, List.set_cons_zero, List.set_cons_succ])
    (refine held_take (v := ?_) (d := some 57) 31 (by kernel_rfl) (by kernel_rfl) rfl ?_ ?_
     rotate_left
     · intro w hSw
       conv in opOf _ _ => whnf
       (try dsimp only at hSw)
       go_simp
       try (with_reducible rfl)
     try simp only [Act.put, List.setIfInBounds_toArray, List.set_cons_zero, List.set_cons_succ])
    (refine held_take (v := ?_) (d := some 58) 32 (by kernel_rfl) (by kernel_rfl) rfl ?_ ?_
     rotate_left
     · intro w hSw
       conv in opOf _ _ => whnf
       (try dsimp only at hSw)
       go_simp
       try (with_reducible rfl)
     try simp only [Act.put, List.setIfInBounds_toArray, List.set_cons_zero, List.set_cons_succ])
    (refine held_take (v := ?_) (d := some 59) 33 (by kernel_rfl) (by kernel_rfl) rfl ?_ ?_
     rotate_left
     · intro w hSw
       conv in opOf _ _ => whnf
       (try dsimp only at hSw)
       go_simp
       try (with_reducible rfl)
     try simp only [Act.put, List.setIfInBounds_toArray, List.set_cons_zero, List.set_cons_succ])
    (refine held_take (v := ?_) (d := some 60) 34 (by kernel_rfl) (by kernel_rfl) rfl ?_ ?_
     rotate_left
     · intro w hSw
       conv in opOf _ _ => whnf
       (try dsimp only at hSw)
       go_simp
       try (with_reducible rfl)
     try simp only [Act.put, List.setIfInBounds_toArray, List.set_cons_zero, List.set_cons_succ])
    refine held_done (by kernel_rfl) (fun hS => hR.out _ _ ?_)
    all_goals
      obtain ⟨hB4, _⟩ := hS
      have hT4 := hT3.grow hB4
      have hz4 := hB4.size
      go_wp2_with (first
        | (go_at_call 19; refine (Hsp.out _ hT4).mono ?_; rintro e w5 ⟨rfl, hb5⟩; have hT5 := hT4.grow hb5; have hz5 := hb5.size)
        | (go_at_call 20; refine (Hrs.out _).mono ?_; rintro e w6 ⟨rfl, hb6⟩; have hT6 := hT5.grow hb6; have hz6 := hb6.size)
        | (go_at_call 21; refine (Hre.out _).mono ?_; rintro e w7 ⟨rfl, rfl⟩)
        | (go_at_call 22; refine (Hff.out _).mono ?_; rintro e w7 ⟨rfl, rfl⟩)
        | (go_at_call 23; refine (known5_any _ hT6).mono ?_; rintro e w8 ⟨rfl, hb8⟩))
      go_ret
      exact ⟨rfl, (((((((hb1.trans (hb2.mono (by omega))).alloc (by omega) _).trans (hb3.mono (by simp; omega))).trans (hB4.mono (by omega))).trans (hb5.mono (by omega))).trans (hb6.mono (by omega))).trans (hb8.mono (by omega)))⟩

set_option maxHeartbeats 4000000 in
theorem asks_yes (s : ByteArray) (op n f k : Int) (K SB FB : Bool) (v0 : Array UInt8) (v1 t : Int) (ht : decide (0 < t) = true) (w : World) (hT : TabIs 0 w) (hK : decide (0 < k) = K)
    (Hfi : Hid (∀ w, TabIs 0 w → Calls Tryd.prog 15 #[.string s] w fun e w' => e = .returned (.tuple #[.int .i64 k, .bool K]) ∧ Below w.heap.size w w'))
    (Hrf : Hid (∀ w, Calls Tryd.prog 17 #[.string s] w fun e w' => e = .returned (.int .i64 k) ∧ Below w.heap.size w w'))
    (Hat : Hid (∀ w, TabIs 0 w → Calls Tryd.prog 16 #[.int .i64 op] w fun e w' => e = .returned (.tuple #[.agg #[.string ⟨v0⟩, .int .u8 v1, .int .i64 t], .bool true]) ∧ Below w.heap.size w w'))
    (Hsh : Hid (∀ w, Calls Tryd.prog 18 #[.int .i64 op] w fun e w' => e = .returned (.int .i64 t) ∧ Below w.heap.size w w'))
    (Hsp : Hid (∀ w, TabIs 0 w → Calls Tryd.prog 19 #[.int .i64 op] w fun e w' => e = .returned (.bool SB) ∧ Below w.heap.size w w'))
    (Hrs : Hid (∀ w, Calls Tryd.prog 20 #[.int .i64 op] w fun e w' => e = .returned (.bool SB) ∧ Below w.heap.size w w'))
    (Hre : Hid (∀ w, Calls Tryd.prog 21 #[.int .i32 n, .int .i64 f] w fun e w' => e = .returned (.bool FB) ∧ w = w'))
    (Hff : Hid (∀ w, Calls Tryd.prog 22 #[.int .i32 n, .int .i64 f] w fun e w' => e = .returned (.bool FB) ∧ w = w')) :
    Calls Tryd.prog 3 #[.string s, .int .i64 op, .int .i32 n, .int .i64 f] w fun e w' => e = .returned (.bool true) ∧ Below w.heap.size w w' := by
  cases K
  all_goals
    go_enter Tryd.func3, Tryd.ntmps3
    go_wp2_with (first
      | (go_at_call 15; refine (Hfi.out _ hT).mono ?_; rintro e w1 ⟨rfl, hb1⟩; have hT1 := hT.grow hb1; have hz1 := hb1.size)
      | (go_at_call 16; refine (Hat.out _ hT1).mono ?_; rintro e w2 ⟨rfl, hb2⟩; have hT2 := hT1.grow hb2; have hz2 := hb2.size)
      | (go_at_call 17; refine (Hrf.out _).mono ?_; rintro e w3 ⟨rfl, hb3⟩; have hT3 := (hT2.alloc _).grow hb3; have hz3 : w2.heap.size < w3.heap.size := (by have := hb3.size; simp at this; omega); obtain ⟨hc3, _⟩ := bcell hb3; have hx0 : w3.cell? ⟨w2.heap.size, 0, none⟩ = some (.string ⟨v0⟩) := (by rw [hc3 _ _ (by simp)]; exact (Blk.new w2 _ _).cell 0); have hx1 : w3.cell? ⟨w2.heap.size, 1, none⟩ = some (.int .u8 v1) := (by rw [hc3 _ _ (by simp)]; exact (Blk.new w2 _ _).cell 1); have hx2 : w3.cell? ⟨w2.heap.size, 2, none⟩ = some (.int .i64 t) := (by rw [hc3 _ _ (by simp)]; exact (Blk.new w2 _ _).cell 2)))
    refine held_start (ops' := asksOps) (l0 := #[false, false, false, false, false, false, false, false, false, false, false, false, false, false, false, false, false, false, false, false, false, false, false, false, false, false, false, false, false, false, false, false, false, false, false]) (S := (fun w' => Below w3.heap.size w3 w' ∧ w'.cell? ⟨w2.heap.size, 0, none⟩ = some (.string ⟨v0⟩) ∧ w'.cell? ⟨w2.heap.size, 1, none⟩ = some (.int .u8 v1) ∧ w'.cell? ⟨w2.heap.size, 2, none⟩ = some (.int .i64 t))) (by kernel_rfl) (by kernel_rfl) (by kernel_rfl) (by kernel_rfl) ⟨(Below.refl _ _).drew, hx0, hx1, hx2⟩ (fun R hR => ?_)
    (refine held_take (v := ?_) (d := some 26) 0 (by kernel_rfl) (by kernel_rfl) rfl ?_ ?_
     rotate_left
     · intro w hSw
       conv in opOf _ _ => whnf
       (try dsimp only at hSw)
       go_simp
       try (with_reducible rfl)
     try simp only [Act.put, List.setIfInBounds_toArray, List.set_cons_zero, List.set_cons_succ])
    (refine held_take (v := ?_) (d := some 27) 1 (by kernel_rfl) (by kernel_rfl) rfl ?_ ?_
     rotate_left
     · intro w hSw
       conv in opOf _ _ => whnf
       (try dsimp only at hSw)
       go_simp
       try (with_reducible rfl)
     try simp only [Act.put, List.setIfInBounds_toArray, List.set_cons_zero, List.set_cons_succ])
    (refine held_take (v := ?_) (d := some 28) 2 (by kernel_rfl) (by kernel_rfl) rfl ?_ ?_
     rotate_left
     · intro w hSw
       conv in opOf _ _ => whnf
       (try dsimp only at hSw)
       go_simp
       try (with_reducible rfl)
     try simp only [Act.put, List.setIfInBounds_toArray, List.set_cons_zero, List.set_cons_succ])
    (refine held_take (v := ?_) (d := some 29) 3 (by kernel_rfl) (by kernel_rfl) rfl ?_ ?_
     rotate_left
     · intro w hSw
       conv in opOf _ _ => whnf
       (try dsimp only at hSw)
       go_simp
       try (with_reducible rfl)
     try simp only [Act.put, List.setIfInBounds_toArray, List.set_cons_zero, List.set_cons_succ])
    (refine held_take (v := ?_) (d := some 30) 4 (by kernel_rfl) (by kernel_rfl) rfl ?_ ?_
     rotate_left
     · intro w hSw
       conv in opOf _ _ => whnf
       (try dsimp only at hSw)
       go_simp
       try (with_reducible rfl)
     try simp only [Act.put, List.setIfInBounds_toArray, List.set_cons_zero, List.set_cons_succ])
    (refine held_take (v := ?_) (d := some 31) 5 (by kernel_rfl) (by kernel_rfl) rfl ?_ ?_
     rotate_left
     · intro w hSw
       conv in opOf _ _ => whnf
       (try dsimp only at hSw)
       go_simp
       try (with_reducible rfl)
     try simp only [Act.put, List.setIfInBounds_toArray, List.set_cons_zero, List.set_cons_succ])
    (refine held_take (v := ?_) (d := some 32) 6 (by kernel_rfl) (by kernel_rfl) rfl ?_ ?_
     rotate_left
     · intro w hSw
       conv in opOf _ _ => whnf
       (try dsimp only at hSw)
       go_simp
       try (with_reducible rfl)
     try simp only [Act.put, List.setIfInBounds_toArray, List.set_cons_zero, List.set_cons_succ])
    (refine held_take (v := ?_) (d := some 33) 7 (by kernel_rfl) (by kernel_rfl) rfl ?_ ?_
     rotate_left
     · intro w hSw
       conv in opOf _ _ => whnf
       (try dsimp only at hSw)
       go_simp
       try (with_reducible rfl)
     try simp only [Act.put, List.setIfInBounds_toArray, List.set_cons_zero, List.set_cons_succ])
    (refine held_take (v := ?_) (d := some 34) 8 (by kernel_rfl) (by kernel_rfl) rfl ?_ ?_
     rotate_left
     · intro w hSw
       conv in opOf _ _ => whnf
       (try dsimp only at hSw)
       go_simp
       try (with_reducible rfl)
     try simp only [Act.put, List.setIfInBounds_toArray, List.set_cons_zero, List.set_cons_succ])
    (refine held_take (v := ?_) (d := some 35) 9 (by kernel_rfl) (by kernel_rfl) rfl ?_ ?_
     rotate_left
     · intro w hSw
       conv in opOf _ _ => whnf
       (try dsimp only at hSw)
       go_simp
       try (with_reducible rfl)
     try simp only [Act.put, List.setIfInBounds_toArray, List.set_cons_zero, List.set_cons_succ])
    (refine held_take (v := ?_) (d := some 36) 10 (by kernel_rfl) (by kernel_rfl) rfl ?_ ?_
     rotate_left
     · intro w hSw
       conv in opOf _ _ => whnf
       (try dsimp only at hSw)
       go_simp
       try (with_reducible rfl)
     try simp only [Act.put, List.setIfInBounds_toArray, List.set_cons_zero, List.set_cons_succ])
    (refine held_take (v := ?_) (d := some 37) 11 (by kernel_rfl) (by kernel_rfl) rfl ?_ ?_
     rotate_left
     · intro w hSw
       conv in opOf _ _ => whnf
       (try dsimp only at hSw)
       go_simp
       try (with_reducible rfl)
     try simp only [Act.put, List.setIfInBounds_toArray, List.set_cons_zero, List.set_cons_succ])
    (refine held_one 12 (by kernel_rfl) (by kernel_rfl) (held_call (d := some 38) 12 (by kernel_rfl) (by kernel_rfl) rfl (fun hS => Hsh.out _) (by kernel_rfl) (fun w' hS hbb => ⟨held3 hS (by assumption) hbb, ?_⟩))
     try simp only [Act.put, List.setIfInBounds_toArray, List.set_cons_zero, List.set_cons_succ])
    (refine held_take (v := ?_) (d := some 39) 13 (by kernel_rfl) (by kernel_rfl) rfl ?_ ?_
     rotate_left
     · intro w hSw
       conv in opOf _ _ => whnf
       (try dsimp only at hSw)
       go_simp
       try (with_reducible rfl)
     try simp only [Act.put, List.setIfInBounds_toArray, List.set_cons_zero, List.set_cons_succ])
    (refine held_take (v := ?_) (d := some 40) 14 (by kernel_rfl) (by kernel_rfl) rfl ?_ ?_
     rotate_left
     · intro w hSw
       conv in opOf _ _ => whnf
       (try dsimp only at hSw)
       go_simp
       try (with_reducible rfl)
     try simp only [Act.put, List.setIfInBounds_toArray, List.set_cons_zero, List.set_cons_succ])
    (refine held_take (v := ?_) (d := some 41) 15 (by kernel_rfl) (by kernel_rfl) rfl ?_ ?_
     rotate_left
     · intro w hSw
       conv in opOf _ _ => whnf
       (try dsimp only at hSw)
       go_simp
       try (with_reducible rfl)
     try simp only [Act.put, List.setIfInBounds_toArray, List.set_cons_zero, List.set_cons_succ])
    (refine held_take (v := ?_) (d := some 42) 16 (by kernel_rfl) (by kernel_rfl) rfl ?_ ?_
     rotate_left
     · intro w hSw
       conv in opOf _ _ => whnf
       (try dsimp only at hSw)
       go_simp
       try (with_reducible rfl)
     try simp only [Act.put, List.setIfInBounds_toArray, List.set_cons_zero, List.set_cons_succ])
    (refine held_take (v := ?_) (d := some 43) 17 (by kernel_rfl) (by kernel_rfl) rfl ?_ ?_
     rotate_left
     · intro w hSw
       conv in opOf _ _ => whnf
       (try dsimp only at hSw)
       go_simp
       try (with_reducible rfl)
     try simp only [Act.put, List.setIfInBounds_toArray, List.set_cons_zero, List.set_cons_succ])
    (refine held_take (v := ?_) (d := some 44) 18 (by kernel_rfl) (by kernel_rfl) rfl ?_ ?_
     rotate_left
     · intro w hSw
       conv in opOf _ _ => whnf
       (try dsimp only at hSw)
       go_simp
       try (with_reducible rfl)
     try simp only [Act.put, List.setIfInBounds_toArray, List.set_cons_zero, List.set_cons_succ])
    (refine held_take (v := ?_) (d := some 45) 19 (by kernel_rfl) (by kernel_rfl) rfl ?_ ?_
     rotate_left
     · intro w hSw
       conv in opOf _ _ => whnf
       (try dsimp only at hSw)
       go_simp
       try (with_reducible rfl)
     try simp only [Act.put, List.setIfInBounds_toArray, List.set_cons_zero, List.set_cons_succ])
    (refine held_take (v := ?_) (d := some 46) 20 (by kernel_rfl) (by kernel_rfl) rfl ?_ ?_
     rotate_left
     · intro w hSw
       conv in opOf _ _ => whnf
       (try dsimp only at hSw)
       go_simp
       try (with_reducible rfl)
     try simp only [Act.put, List.setIfInBounds_toArray, List.set_cons_zero, List.set_cons_succ])
    (refine held_take (v := ?_) (d := some 47) 21 (by kernel_rfl) (by kernel_rfl) rfl ?_ ?_
     rotate_left
     · intro w hSw
       conv in opOf _ _ => whnf
       (try dsimp only at hSw)
       go_simp
       try (with_reducible rfl)
     try simp only [Act.put, List.setIfInBounds_toArray, List.set_cons_zero, List.set_cons_succ])
    (refine held_one 22 (by kernel_rfl) (by kernel_rfl) (held_call (d := some 48) 22 (by kernel_rfl) (by kernel_rfl) rfl (fun hS => Hsh.out _) (by kernel_rfl) (fun w' hS hbb => ⟨held3 hS (by assumption) hbb, ?_⟩))
     try simp only [Act.put, List.setIfInBounds_toArray, List.set_cons_zero, List.set_cons_succ])
    (refine held_take (v := ?_) (d := some 49) 23 (by kernel_rfl) (by kernel_rfl) rfl ?_ ?_
     rotate_left
     · intro w hSw
       conv in opOf _ _ => whnf
       (try dsimp only at hSw)
       go_simp
       try (with_reducible rfl)
     try simp only [Act.put, List.setIfInBounds_toArray, List.set_cons_zero, List.set_cons_succ])
    (refine held_take (v := ?_) (d := some 50) 24 (by kernel_rfl) (by kernel_rfl) rfl ?_ ?_
     rotate_left
     · intro w hSw
       conv in opOf _ _ => whnf
       (try dsimp only at hSw)
       go_simp
       try (with_reducible rfl)
     try simp only [Act.put, List.setIfInBounds_toArray, List.set_cons_zero, List.set_cons_succ])
    (refine held_take (v := ?_) (d := some 51) 25 (by kernel_rfl) (by kernel_rfl) rfl ?_ ?_
     rotate_left
     · intro w hSw
       conv in opOf _ _ => whnf
       (try dsimp only at hSw)
       go_simp
       try (with_reducible rfl)
     try simp only [Act.put, List.setIfInBounds_toArray, List.set_cons_zero, List.set_cons_succ])
    (refine held_take (v := ?_) (d := some 52) 26 (by kernel_rfl) (by kernel_rfl) rfl ?_ ?_
     rotate_left
     · intro w hSw
       conv in opOf _ _ => whnf
       (try dsimp only at hSw)
       go_simp
       try (with_reducible rfl)
     try simp only [Act.put, List.setIfInBounds_toArray, List.set_cons_zero, List.set_cons_succ])
    (refine held_take (v := ?_) (d := some 53) 27 (by kernel_rfl) (by kernel_rfl) rfl ?_ ?_
     rotate_left
     · intro w hSw
       conv in opOf _ _ => whnf
       (try dsimp only at hSw)
       go_simp
       try (with_reducible rfl)
     try simp only [Act.put, List.setIfInBounds_toArray, List.set_cons_zero, List.set_cons_succ])
    (refine held_take (v := ?_) (d := some 54) 28 (by kernel_rfl) (by kernel_rfl) rfl ?_ ?_
     rotate_left
     · intro w hSw
       conv in opOf _ _ => whnf
       (try dsimp only at hSw)
       go_simp
       try (with_reducible rfl)
     try simp only [Act.put, List.setIfInBounds_toArray, List.set_cons_zero, List.set_cons_succ])
    (refine held_take (v := ?_) (d := some 55) 29 (by kernel_rfl) (by kernel_rfl) rfl ?_ ?_
     rotate_left
     · intro w hSw
       conv in opOf _ _ => whnf
       (try dsimp only at hSw)
       go_simp
       try (with_reducible rfl)
     try simp only [Act.put, List.setIfInBounds_toArray, List.set_cons_zero, List.set_cons_succ])
    (refine held_skip (d := some 56) 30 (by kernel_rfl) (by kernel_rfl) rfl ?_
     try simp only [Act.put, List.setIfInBounds_toArray, List.set_cons_zero, List.set_cons_succ])
    (refine held_skip (d := some 57) 31 (by kernel_rfl) (by kernel_rfl) rfl ?_
     try simp only [Act.put, List.setIfInBounds_toArray, List.set_cons_zero, List.set_cons_succ])
    (refine held_skip (d := some 58) 32 (by kernel_rfl) (by kernel_rfl) rfl ?_
     try simp only [Act.put, List.setIfInBounds_toArray, List.set_cons_zero, List.set_cons_succ])
    (refine held_take (v := ?_) (d := some 59) 33 (by kernel_rfl) (by kernel_rfl) rfl ?_ ?_
     rotate_left
     · intro w hSw
       conv in opOf _ _ => whnf
       (try dsimp only at hSw)
       go_simp
       try (with_reducible rfl)
     try simp only [Act.put, List.setIfInBounds_toArray, List.set_cons_zero, List.set_cons_succ])
    (refine held_take (v := ?_) (d := some 60) 34 (by kernel_rfl) (by kernel_rfl) rfl ?_ ?_
     rotate_left
     · intro w hSw
       conv in opOf _ _ => whnf
       (try dsimp only at hSw)
       go_simp
       try (with_reducible rfl)
     try simp only [Act.put, List.setIfInBounds_toArray, List.set_cons_zero, List.set_cons_succ])
    refine held_done (by kernel_rfl) (fun hS => hR.out _ _ ?_)
    all_goals
      obtain ⟨hB4, _⟩ := hS
      have hT4 := hT3.grow hB4
      have hz4 := hB4.size
      go_wp2_with (first
        | (go_at_call 19; refine (Hsp.out _ hT4).mono ?_; rintro e w5 ⟨rfl, hb5⟩; have hT5 := hT4.grow hb5; have hz5 := hb5.size)
        | (go_at_call 20; refine (Hrs.out _).mono ?_; rintro e w6 ⟨rfl, hb6⟩; have hT6 := hT5.grow hb6; have hz6 := hb6.size)
        | (go_at_call 21; refine (Hre.out _).mono ?_; rintro e w7 ⟨rfl, rfl⟩)
        | (go_at_call 22; refine (Hff.out _).mono ?_; rintro e w7 ⟨rfl, rfl⟩)
        | (go_at_call 23; refine (known5_any _ hT6).mono ?_; rintro e w8 ⟨rfl, hb8⟩))
      go_ret
      exact ⟨rfl, (((((((hb1.trans (hb2.mono (by omega))).alloc (by omega) _).trans (hb3.mono (by simp; omega))).trans (hB4.mono (by omega))).trans (hb5.mono (by omega))).trans (hb6.mono (by omega))).trans (hb8.mono (by omega)))⟩

theorem walk {P1 P2 P4 : Prop} (w : World) (s : ByteArray) (b1 : P1) (op : Int) (b2 : P2) (n : Int) (b3 : -2147483648 ≤ n ∧ n ≤ 2147483647) (f : Int) (b4 : P4) (hT : TabIs 0 w) :
    Calls Tryd.prog 3 #[.string s, .int .i64 op, .int .i32 n, .int .i64 f] w fun e w' => e = .returned (.bool true) ∧ Below w.heap.size w w' := by
  have hfi := fun w hT => find_any s w hT
  have hrf := fun w => refFind_any s w
  have hsh := fun w => refShape_any op w
  have hsp := fun w hT => spans_any op w hT
  have hrs := fun w => refSpans_any op w
  have hre := fun w => reaches_any n f w b3.1 b3.2
  have hff := fun w => refFits5_any n f w b3.1 b3.2
  by_cases h : isOp op = false
  · have h0 := (shape_bounds op).2 h
    rw [h0] at hsh
    have hat := fun w (_ : TabIs 0 w) => at_no op w (by simpa [isOp] using h)
    exact asks_no s op n f _ _ _ _ w hT rfl (Lib.hid hfi) (Lib.hid hrf) (Lib.hid hat) (Lib.hid hsh) (Lib.hid hsp) (Lib.hid hrs) (Lib.hid hre) (Lib.hid hff)
  · have hop : isOp op = true := by simpa using h
    have hs := (shape_bounds op).1 hop
    have hat := fun w hT => at_any op w hT
    rw [hop] at hat
    exact asks_yes s op n f _ _ _ _ _ _ _ (by simp; omega) w hT rfl (Lib.hid hfi) (Lib.hid hrf) (Lib.hid hat) (Lib.hid hsh) (Lib.hid hsp) (Lib.hid hrs) (Lib.hid hre) (Lib.hid hff)
end Go.Proofs.YtfplkmldleigpaaDoor.isaAsks
