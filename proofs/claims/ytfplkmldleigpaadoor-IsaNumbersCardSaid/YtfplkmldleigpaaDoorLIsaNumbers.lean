/- Law IsaNumbers: chapter 5's runs: the whole list. Conditions: none. -/
import Derived.Test.YtfplkmldleigpaaDoorB11
import Derived.Test.YtfplkmldleigpaaDoorR1
namespace Go.Proofs.YtfplkmldleigpaaDoor.isaNumbers
open Go.RowKit
set_option linter.unusedVariables false
set_option linter.unusedSimpArgs false

noncomputable def numOps : Array Oper := regOf Tryd.f7.body 8
theorem stepB {W w w' : World} (hB : Below W.heap.size W w) (hb : Below w.heap.size w w') : Below W.heap.size W w' := hB.trans (hb.mono hB.size)
theorem stepA {W w w' : World} {o : Obj} (hB : Below W.heap.size W w) (hb : Below (w.alloc o).heap.size (w.alloc o) w') : Below W.heap.size W w' :=
  (hB.alloc hB.size o).trans (hb.mono (by have := hB.size; simp; omega))
theorem tabA {g : Nat} {w w' : World} {o : Obj} (hT : TabIs g w) (hb : Below (w.alloc o).heap.size (w.alloc o) w') : TabIs g w' := (hT.alloc o).grow hb
theorem has_cells {W : World} {g : Nat} (h : Has W g 0 tabCells) (k : Nat) (hk : k < 43) :
    W.cell? ⟨g, k * 3, none⟩ = some (.string ⟨(opName ((k : Int) + 1)).toArray⟩) ∧ W.cell? ⟨g, k * 3 + 1, none⟩ = some (.int .u8 (opByte ((k : Int) + 1))) ∧ W.cell? ⟨g, k * 3 + 2, none⟩ = some (.int .i64 (opShape ((k : Int) + 1))) := by
  have c : ∀ j v, j < 3 → (opCells (opAt ((k : Int) + 1)))[j]? = some v → W.cell? ⟨g, k * 3 + j, none⟩ = some v := by
    intro j v hj hv
    have := h (k * 3 + j) v (by rw [tab_cell k hk j hj, ← opAt_yes k hk]; exact hv)
    rwa [Nat.zero_add] at this
  exact ⟨c 0 _ (by omega) rfl, c 1 _ (by omega) rfl, c 2 _ (by omega) rfl⟩
theorem n_find (w : World) (hT : TabIs 0 w) : Calls Tryd.prog 15 #[.string ⟨#[110, 111, 112, 101]⟩] w fun e w' => e = .returned (.tuple #[.int .i64 0, .bool false]) ∧ Below w.heap.size w w' := by
  have := find_any ⟨#[110, 111, 112, 101]⟩ w hT
  rw [show findR (ByteArray.mk #[110, 111, 112, 101]).toList = 0 from by rw [ByteArray.toList_eq]; decide +kernel] at this
  exact this
theorem n_at0 (w : World) : Calls Tryd.prog 16 #[.int .i64 0] w fun e w' => e = .returned (.tuple #[.agg #[.string ⟨#[]⟩, .int .u8 0, .int .i64 0], .bool false]) ∧ Below w.heap.size w w' := at_no 0 w (by omega)
theorem n_at44 (w : World) : Calls Tryd.prog 16 #[.int .i64 44] w fun e w' => e = .returned (.tuple #[.agg #[.string ⟨#[]⟩, .int .u8 0, .int .i64 0], .bool false]) ∧ Below w.heap.size w w' := at_no 44 w (by omega)
theorem n_span40 (w : World) (hT : TabIs 0 w) : Calls Tryd.prog 19 #[.int .i64 40] w fun e w' => e = .returned (.bool true) ∧ Below w.heap.size w w' := spans_any 40 w hT
theorem n_span1 (w : World) (hT : TabIs 0 w) : Calls Tryd.prog 19 #[.int .i64 1] w fun e w' => e = .returned (.bool false) ∧ Below w.heap.size w w' := spans_any 1 w hT
theorem n_c14 (w : World) (hT : TabIs 0 w) : Calls Tryd.prog 26 #[.agg #[.int .i64 14, .int .i64 1, .int .i64 9, .int .i32 0, .int .i64 0]] w fun e w' => e = .returned (.int .i64 12) ∧ Below w.heap.size w w' := by
  have := check_any 14 1 9 0 0 w (by omega) hT
  rw [show checkR 14 1 9 0 0 = 12 from by decide +kernel] at this
  exact this
theorem n_c1 (w : World) (hT : TabIs 0 w) : Calls Tryd.prog 26 #[.agg #[.int .i64 1, .int .i64 1, .int .i64 0, .int .i32 0, .int .i64 0]] w fun e w' => e = .returned (.int .i64 12) ∧ Below w.heap.size w w' := by
  have := check_any 1 1 0 0 0 w (by omega) hT
  rw [show checkR 1 1 0 0 0 = 12 from by decide +kernel] at this
  exact this
theorem n_c40 (w : World) (hT : TabIs 0 w) : Calls Tryd.prog 26 #[.agg #[.int .i64 40, .int .i64 0, .int .i64 0, .int .i32 200, .int .i64 1]] w fun e w' => e = .returned (.int .i64 13) ∧ Below w.heap.size w w' := by
  have := check_any 40 0 0 200 1 w (by omega) hT
  rw [show checkR 40 0 0 200 1 = 13 from by decide +kernel] at this
  exact this
theorem n_c0 (w : World) (hT : TabIs 0 w) : Calls Tryd.prog 26 #[.agg #[.int .i64 0, .int .i64 0, .int .i64 0, .int .i32 0, .int .i64 0]] w fun e w' => e = .returned (.int .i64 11) ∧ Below w.heap.size w w' := by
  have := check_any 0 0 0 0 0 w (by omega) hT
  rw [show checkR 0 0 0 0 0 = 11 from by decide +kernel] at this
  exact this
theorem n_l38 (w : World) (hT : TabIs 0 w) : Calls Tryd.prog 27 #[.agg #[.int .i64 38, .int .i64 0, .int .i64 0, .int .i32 0, .int .i64 0]] w fun e w' => e = .returned (.int .i64 6) ∧ Below w.heap.size w w' := by
  have := len_any 38 0 0 0 0 w (by omega) hT
  rw [show lenR 38 0 0 0 0 = 6 from by decide +kernel] at this
  exact this
theorem n_l42 (w : World) (hT : TabIs 0 w) : Calls Tryd.prog 27 #[.agg #[.int .i64 42, .int .i64 0, .int .i64 0, .int .i32 0, .int .i64 4]] w fun e w' => e = .returned (.int .i64 6) ∧ Below w.heap.size w w' := by
  have := len_any 42 0 0 0 4 w (by omega) hT
  rw [show lenR 42 0 0 0 4 = 6 from by decide +kernel] at this
  exact this

set_option maxHeartbeats 2000000 in
theorem walk (w : World) (hT : TabIs 0 w) :
    Calls Tryd.prog 7 #[] w fun e w' => e = .returned (.bool true) ∧ Below w.heap.size w w' := by
  go_enter Tryd.func7, Tryd.ntmps7
  go_wp2_with (first
    | (go_at_call 28; refine (ops_any _ hT).mono ?_; rintro e w1 ⟨g, c, rfl, hc, hg0, hg1, hhas, hb1⟩; have hT1 := hT.grow hb1; have hz1 := hb1.size)
    | (go_at_call 29; refine (refOps_gives _).mono ?_; rintro e w2 ⟨rfl, hM2, hb2⟩; have hT2 := hT1.grow hb2; have hz2 := hb2.size; obtain ⟨hc2, _⟩ := bcell hb2; have hl2 := hhas.keep fun i => hc2 g i hg1; have hg2 : g < w2.heap.size := (by omega); have hm2 := hM2.lt))
  go_loopw [3] (fun i wr => ∃ k : Nat, i = .int .i64 k ∧ k ≤ 43 ∧ Below w2.heap.size w2 wr) (fun i _ => 43 - (intOf i).toNat)
  case atStart => exact ⟨0, rfl, Nat.zero_le _, Below.refl _ _⟩
  case round =>
    obtain ⟨k, rfl, hk, hbr⟩ := hrel
    have hzr := hbr.size
    obtain ⟨hcr, _⟩ := bcell hbr
    by_cases hlt : k < 43
    · have hI : (k : Int) < 43 := by omega
      obtain ⟨hl0, hl1, hl2⟩ := has_cells (hl2.keep fun i => hcr g i hg2) k hlt
      obtain ⟨hm0, hm1, hm2⟩ := has_cells (hM2.has.keep fun i => hcr _ i hm2) k hlt
      generalize opName ((k : Int) + 1) = N at *
      generalize opByte ((k : Int) + 1) = B at *
      generalize opShape ((k : Int) + 1) = H at *
      go_wp2_with fail
      refine held_start (ops' := numOps) (l0 := #[false, false, false, false, false, false, false, false, false, false, false, false, false, false, false, false, false, false, false, false, false]) (S := (fun w' => Below wr.heap.size wr w' ∧ (w'.cell? ⟨g, k * 3, none⟩ = some (.string ⟨N.toArray⟩) ∧ w'.cell? ⟨g, k * 3 + 1, none⟩ = some (.int .u8 B) ∧ w'.cell? ⟨g, k * 3 + 2, none⟩ = some (.int .i64 H)) ∧ (w'.cell? ⟨w1.heap.size, k * 3, none⟩ = some (.string ⟨N.toArray⟩) ∧ w'.cell? ⟨w1.heap.size, k * 3 + 1, none⟩ = some (.int .u8 B) ∧ w'.cell? ⟨w1.heap.size, k * 3 + 2, none⟩ = some (.int .i64 H)))) (by kernel_rfl) (by kernel_rfl) (by kernel_rfl) (by kernel_rfl) ⟨(Below.refl _ _).drew, ⟨hl0, hl1, hl2⟩, ⟨hm0, hm1, hm2⟩⟩ (fun R hR => ?_)
      (refine held_take (v := ?_) (d := some 28) 0 (by kernel_rfl) (by kernel_rfl) rfl ?_ ?_
       rotate_left
       · intro w hSw
         conv in opOf _ _ => whnf
         (try dsimp only at hSw)
         go_simp
         try (with_reducible rfl)
       try simp only [Act.put, List.setIfInBounds_toArray, List.set_cons_zero, List.set_cons_succ])
      (refine held_take (v := ?_) (d := some 29) 1 (by kernel_rfl) (by kernel_rfl) rfl ?_ ?_
       rotate_left
       · intro w hSw
         conv in opOf _ _ => whnf
         (try dsimp only at hSw)
         go_simp
         try (with_reducible rfl)
       try simp only [Act.put, List.setIfInBounds_toArray, List.set_cons_zero, List.set_cons_succ])
      (refine held_take (v := ?_) (d := some 30) 2 (by kernel_rfl) (by kernel_rfl) rfl ?_ ?_
       rotate_left
       · intro w hSw
         conv in opOf _ _ => whnf
         (try dsimp only at hSw)
         go_simp
         try (with_reducible rfl)
       try simp only [Act.put, List.setIfInBounds_toArray, List.set_cons_zero, List.set_cons_succ])
      (refine held_take (v := ?_) (d := some 31) 3 (by kernel_rfl) (by kernel_rfl) rfl ?_ ?_
       rotate_left
       · intro w hSw
         conv in opOf _ _ => whnf
         (try dsimp only at hSw)
         go_simp
         try (with_reducible rfl)
       try simp only [Act.put, List.setIfInBounds_toArray, List.set_cons_zero, List.set_cons_succ])
      (refine held_take (v := ?_) (d := some 32) 4 (by kernel_rfl) (by kernel_rfl) rfl ?_ ?_
       rotate_left
       · intro w hSw
         conv in opOf _ _ => whnf
         (try dsimp only at hSw)
         go_simp
         try (with_reducible rfl)
       try simp only [Act.put, List.setIfInBounds_toArray, List.set_cons_zero, List.set_cons_succ])
      (refine held_take (v := ?_) (d := some 33) 5 (by kernel_rfl) (by kernel_rfl) rfl ?_ ?_
       rotate_left
       · intro w hSw
         conv in opOf _ _ => whnf
         (try dsimp only at hSw)
         go_simp
         try (with_reducible rfl)
       try simp only [Act.put, List.setIfInBounds_toArray, List.set_cons_zero, List.set_cons_succ])
      (refine held_take (v := ?_) (d := some 34) 6 (by kernel_rfl) (by kernel_rfl) rfl ?_ ?_
       rotate_left
       · intro w hSw
         conv in opOf _ _ => whnf
         (try dsimp only at hSw)
         go_simp
         try (with_reducible rfl)
       try simp only [Act.put, List.setIfInBounds_toArray, List.set_cons_zero, List.set_cons_succ])
      (refine held_take (v := ?_) (d := some 35) 7 (by kernel_rfl) (by kernel_rfl) rfl ?_ ?_
       rotate_left
       · intro w hSw
         conv in opOf _ _ => whnf
         (try dsimp only at hSw)
         go_simp
         try (with_reducible rfl)
       try simp only [Act.put, List.setIfInBounds_toArray, List.set_cons_zero, List.set_cons_succ])
      (refine held_take (v := ?_) (d := some 36) 8 (by kernel_rfl) (by kernel_rfl) rfl ?_ ?_
       rotate_left
       · intro w hSw
         conv in opOf _ _ => whnf
         (try dsimp only at hSw)
         go_simp
         try (with_reducible rfl)
       try simp only [Act.put, List.setIfInBounds_toArray, List.set_cons_zero, List.set_cons_succ])
      (refine held_take (v := ?_) (d := some 37) 9 (by kernel_rfl) (by kernel_rfl) rfl ?_ ?_
       rotate_left
       · intro w hSw
         conv in opOf _ _ => whnf
         (try dsimp only at hSw)
         go_simp
         try (with_reducible rfl)
       try simp only [Act.put, List.setIfInBounds_toArray, List.set_cons_zero, List.set_cons_succ])
      (refine held_take (v := ?_) (d := some 38) 10 (by kernel_rfl) (by kernel_rfl) rfl ?_ ?_
       rotate_left
       · intro w hSw
         conv in opOf _ _ => whnf
         (try dsimp only at hSw)
         go_simp
         try (with_reducible rfl)
       try simp only [Act.put, List.setIfInBounds_toArray, List.set_cons_zero, List.set_cons_succ])
      (refine held_take (v := ?_) (d := some 39) 11 (by kernel_rfl) (by kernel_rfl) rfl ?_ ?_
       rotate_left
       · intro w hSw
         conv in opOf _ _ => whnf
         (try dsimp only at hSw)
         go_simp
         try (with_reducible rfl)
       try simp only [Act.put, List.setIfInBounds_toArray, List.set_cons_zero, List.set_cons_succ])
      (refine held_take (v := ?_) (d := some 40) 12 (by kernel_rfl) (by kernel_rfl) rfl ?_ ?_
       rotate_left
       · intro w hSw
         conv in opOf _ _ => whnf
         (try dsimp only at hSw)
         go_simp
         try (with_reducible rfl)
       try simp only [Act.put, List.setIfInBounds_toArray, List.set_cons_zero, List.set_cons_succ])
      (refine held_take (v := ?_) (d := some 41) 13 (by kernel_rfl) (by kernel_rfl) rfl ?_ ?_
       rotate_left
       · intro w hSw
         conv in opOf _ _ => whnf
         (try dsimp only at hSw)
         go_simp
         try (with_reducible rfl)
       try simp only [Act.put, List.setIfInBounds_toArray, List.set_cons_zero, List.set_cons_succ])
      (refine held_take (v := ?_) (d := some 42) 14 (by kernel_rfl) (by kernel_rfl) rfl ?_ ?_
       rotate_left
       · intro w hSw
         conv in opOf _ _ => whnf
         (try dsimp only at hSw)
         go_simp
         try (with_reducible rfl)
       try simp only [Act.put, List.setIfInBounds_toArray, List.set_cons_zero, List.set_cons_succ])
      (refine held_take (v := ?_) (d := some 43) 15 (by kernel_rfl) (by kernel_rfl) rfl ?_ ?_
       rotate_left
       · intro w hSw
         conv in opOf _ _ => whnf
         (try dsimp only at hSw)
         go_simp
         try (with_reducible rfl)
       try simp only [Act.put, List.setIfInBounds_toArray, List.set_cons_zero, List.set_cons_succ])
      (refine held_take (v := ?_) (d := some 44) 16 (by kernel_rfl) (by kernel_rfl) rfl ?_ ?_
       rotate_left
       · intro w hSw
         conv in opOf _ _ => whnf
         (try dsimp only at hSw)
         go_simp
         try (with_reducible rfl)
       try simp only [Act.put, List.setIfInBounds_toArray, List.set_cons_zero, List.set_cons_succ])
      (refine held_take (v := ?_) (d := some 45) 17 (by kernel_rfl) (by kernel_rfl) rfl ?_ ?_
       rotate_left
       · intro w hSw
         conv in opOf _ _ => whnf
         (try dsimp only at hSw)
         go_simp
         try (with_reducible rfl)
       try simp only [Act.put, List.setIfInBounds_toArray, List.set_cons_zero, List.set_cons_succ])
      (refine held_take (v := ?_) (d := some 46) 18 (by kernel_rfl) (by kernel_rfl) rfl ?_ ?_
       rotate_left
       · intro w hSw
         conv in opOf _ _ => whnf
         (try dsimp only at hSw)
         go_simp
         try (with_reducible rfl)
       try simp only [Act.put, List.setIfInBounds_toArray, List.set_cons_zero, List.set_cons_succ])
      (refine held_take (v := ?_) (d := some 47) 19 (by kernel_rfl) (by kernel_rfl) rfl ?_ ?_
       rotate_left
       · intro w hSw
         conv in opOf _ _ => whnf
         (try dsimp only at hSw)
         go_simp
         try (with_reducible rfl)
       try simp only [Act.put, List.setIfInBounds_toArray, List.set_cons_zero, List.set_cons_succ])
      (refine held_take (v := ?_) (d := some 48) 20 (by kernel_rfl) (by kernel_rfl) rfl ?_ ?_
       rotate_left
       · intro w hSw
         conv in opOf _ _ => whnf
         (try dsimp only at hSw)
         go_simp
         try (with_reducible rfl)
       try simp only [Act.put, List.setIfInBounds_toArray, List.set_cons_zero, List.set_cons_succ])
      refine held_done (by kernel_rfl) (fun hS => hR.out _ _ ?_)
      obtain ⟨hB5, _⟩ := hS
      have hbr5 := hbr.trans (hB5.mono hzr)
      go_wp2_with fail
      go_roundw
      case rel => exact ⟨k + 1, by go_num, by omega, hbr5⟩
      case measure => simp [intOf]; omega
    · obtain rfl : k = 43 := by omega
      have hT := hT2.grow hbr
      have hB := stepB (stepB hb1 hb2) hbr
      go_wp2_with (first
        | (go_at_call 15; (with_reducible refine (n_find _ (by first | exact hT | exact hT.alloc _)).mono ?_); rintro e w' ⟨rfl, hb⟩; first | (replace hB := stepB hB hb; replace hT := hT.grow hb) | (replace hB := stepA hB hb; replace hT := tabA hT hb); clear hb)
        | (go_at_call 16; (with_reducible refine (n_at0 _).mono ?_); rintro e w' ⟨rfl, hb⟩; first | (replace hB := stepB hB hb; replace hT := hT.grow hb) | (replace hB := stepA hB hb; replace hT := tabA hT hb); clear hb)
        | (go_at_call 16; (with_reducible refine (n_at44 _).mono ?_); rintro e w' ⟨rfl, hb⟩; first | (replace hB := stepB hB hb; replace hT := hT.grow hb) | (replace hB := stepA hB hb; replace hT := tabA hT hb); clear hb)
        | (go_at_call 19; (with_reducible refine (n_span40 _ (by first | exact hT | exact hT.alloc _)).mono ?_); rintro e w' ⟨rfl, hb⟩; first | (replace hB := stepB hB hb; replace hT := hT.grow hb) | (replace hB := stepA hB hb; replace hT := tabA hT hb); clear hb)
        | (go_at_call 19; (with_reducible refine (n_span1 _ (by first | exact hT | exact hT.alloc _)).mono ?_); rintro e w' ⟨rfl, hb⟩; first | (replace hB := stepB hB hb; replace hT := hT.grow hb) | (replace hB := stepA hB hb; replace hT := tabA hT hb); clear hb)
        | (go_at_call 26; (with_reducible refine (n_c14 _ (by first | exact hT | exact hT.alloc _)).mono ?_); rintro e w' ⟨rfl, hb⟩; first | (replace hB := stepB hB hb; replace hT := hT.grow hb) | (replace hB := stepA hB hb; replace hT := tabA hT hb); clear hb)
        | (go_at_call 26; (with_reducible refine (n_c1 _ (by first | exact hT | exact hT.alloc _)).mono ?_); rintro e w' ⟨rfl, hb⟩; first | (replace hB := stepB hB hb; replace hT := hT.grow hb) | (replace hB := stepA hB hb; replace hT := tabA hT hb); clear hb)
        | (go_at_call 26; (with_reducible refine (n_c40 _ (by first | exact hT | exact hT.alloc _)).mono ?_); rintro e w' ⟨rfl, hb⟩; first | (replace hB := stepB hB hb; replace hT := hT.grow hb) | (replace hB := stepA hB hb; replace hT := tabA hT hb); clear hb)
        | (go_at_call 26; (with_reducible refine (n_c0 _ (by first | exact hT | exact hT.alloc _)).mono ?_); rintro e w' ⟨rfl, hb⟩; first | (replace hB := stepB hB hb; replace hT := hT.grow hb) | (replace hB := stepA hB hb; replace hT := tabA hT hb); clear hb)
        | (go_at_call 27; (with_reducible refine (n_l38 _ (by first | exact hT | exact hT.alloc _)).mono ?_); rintro e w' ⟨rfl, hb⟩; first | (replace hB := stepB hB hb; replace hT := hT.grow hb) | (replace hB := stepA hB hb; replace hT := tabA hT hb); clear hb)
        | (go_at_call 27; (with_reducible refine (n_l42 _ (by first | exact hT | exact hT.alloc _)).mono ?_); rintro e w' ⟨rfl, hb⟩; first | (replace hB := stepB hB hb; replace hT := hT.grow hb) | (replace hB := stepA hB hb; replace hT := tabA hT hb); clear hb)
        | (go_at_call 23; (with_reducible refine (known5_any _ (by first | exact hT | exact hT.alloc _)).mono ?_); rintro e w' ⟨rfl, hb⟩; first | (replace hB := stepB hB hb; replace hT := hT.grow hb) | (replace hB := stepA hB hb; replace hT := tabA hT hb); clear hb))
      go_ret
      exact ⟨rfl, hB⟩
end Go.Proofs.YtfplkmldleigpaaDoor.isaNumbers
