/- The walks of Roomy and Intact, at bytes. -/
import Derived.Test.YtjcoanpnbaeobaaA2
import Derived.Test.YtjcoanpnbaeobaaM2
namespace Go.Proofs.Ytjcoanpnbaeobaa
open Go.RowKit
set_option linter.unusedVariables false

/-- Roomy's answer: a new block -/
def GivesRoom (w : World) (t : TypeId) (n : Nat) (cs : List Value) (e : Ending) (w' : World) : Prop :=
  e = .returned (.slice (some ⟨w.heap.size, 0, none⟩) (n + 80) (n + 80)) ∧ Blk w' w.heap.size t cs ∧ Below w.heap.size w w'

set_option maxHeartbeats 400000 in
theorem roomy_u8 (A : Option Addr) (n c : Nat) (l : List UInt8) (m : UInt8) (w : World) (hs : Sl w w.heap.size 1 A n (bs l)) (hn : n + 80 ≤ 140737488355328) :
    Calls Try.prog 14 #[.slice A n c, .int .u8 m.toNat] w (GivesRoom w 5 n (bs (l ++ List.replicate 80 m))) := by
  obtain ⟨i0, hi0, hz0, hz1, hz2⟩ := info_parts u8_info
  have hsz : (Try.prog.info? 5).map (·.size) = some 1 := by rw [hi0]; simp [hz1]
  have hl : (bs l).length = n := by have := hs.len; omega
  have hfin : bs (l ++ List.replicate 80 m) = fillV (bs l) (.int .u8 0) (.int .u8 m.toNat) (n + 80) := by
    rw [← hl, fillV_last, bs_append]
    simp [bs]
  rw [hfin]
  obtain ⟨X, hX⟩ : ∃ X, X = bs l := ⟨_, rfl⟩
  have h1 : ∀ u ∈ X, u.oneCell' = true := by rw [hX]; exact bs_one l
  rw [← hX] at hs hl ⊢
  have HL := Lib.hid hl
  have Hs := Lib.hid hs
  clear hfin hX hl hs
  go_enter Try.func14, Try.ntmps14
  go_wp2_with (first
    | (at_make
       refine wpList_make_full _ rfl _ _ 27 rfl w.heap.size 5 i0 (.int .u8 0) 1 Try.underlying27 hi0 hz0 hz1 _ _ _ _ (n + 80) rfl rfl (by omega) (by omega) (by rw [hz2]; omega) (by unfold maxLen; omega) (Nat.le_refl _) ?_
       intro w1 hown1 hg1
       have hblk1 : Blk w1 w.heap.size 5 (List.replicate (n + 80) (.int .u8 0)) := by (have := own_blk hown1; simpa [toList_madeCells_one, Value.cells] using this)
       have hb1 : Below w.heap.size w w1 := (Below.refl _ _).grown hg1 (Nat.le_refl _) (by simp)
       have hs1 : Hid (Sl w1 w.heap.size 1 A n X) := Lib.hid (Hs.out.below hb1)
       clear hown1 hg1)
    | ((with_reducible show wpList _ _ _ _ _ _)
       refine wpList_copy_splice (o := ⟨some 13, _, _, _, _, _⟩) rfl (.tmp 11) (.tmp 12) 27 27 rfl 5 Try.underlying27 hsz (some ⟨w.heap.size, 0, none⟩) A (n + 80) (n + 80) n c rfl rfl w.heap.size 0 (List.replicate (n + 80) (.int .u8 0)) 5 hblk1 X (by rw [HL.out]; exact (Nat.min_eq_left (by omega)).symm) (fun hp => ⟨rfl, (by rw [HL.out] at hp; obtain ⟨b, o, hA, _, hc⟩ := hs1.out.at_ hp; exact ⟨_, hA, fun j v hj => by rw [add_flat]; exact hc j v hj⟩)⟩) (by rw [HL.out]; simp) h1 w.heap.size w hb1 (Nat.le_refl _) ?_
       intro w2 hblk2 hb2))
  have hblk3 : Blk w2 w.heap.size 5 (fillV X (.int .u8 0) (.int .u8 m.toNat) n) := by
    have h := hblk2.out
    rw [splice_first X _ n HL.out] at h
    rw [show fillV X (Value.int .u8 0) (.int .u8 m.toNat) n = X ++ List.replicate 80 (.int .u8 0) from by rw [← HL.out]; exact fillV_first _ _ _]
    exact h
  clear hblk2
  go_loopw [6] (fun i wr => ∃ j : Nat, i = .int .i64 j ∧ n ≤ j ∧ j ≤ n + 80 ∧ Blk wr w.heap.size 5 (fillV X (.int .u8 0) (.int .u8 m.toNat) j) ∧ Below w.heap.size w wr) (fun i _ => n + 80 - (intOf i).toNat)
  case atStart => exact ⟨n, rfl, Nat.le_refl _, by omega, hblk3, hb2⟩
  case round =>
    obtain ⟨j, rfl, hj0, hj1, hblk, hb⟩ := hrel
    by_cases hlt : j < n + 80
    · obtain ⟨v, hv⟩ : ∃ v, wr.cell? ⟨w.heap.size, j, none⟩ = some v := by
        rw [hblk.cell, List.getElem?_eq_getElem (by rw [fillV_length _ _ _ _ (by rw [HL.out]; exact hj0) (by rw [HL.out]; omega), HL.out]; exact hlt)]
        exact ⟨_, rfl⟩
      have hf := hblk.free j
      have hI : (j : Int) < (n : Int) + 80 := by omega
      go_wp2
      go_roundw
      case rel => exact ⟨j + 1, by go_num, by omega, by omega, by rw [← fillV_step _ _ _ _ (by rw [HL.out]; exact hj0) (by rw [HL.out]; exact hlt)]; exact hblk.set_ j _, hb.setCell (Nat.le_refl _) _⟩
      case measure => simp [intOf]; omega
    · obtain rfl : j = n + 80 := by omega
      go_wp2
      go_ret
      exact ⟨rfl, hblk, hb⟩

set_option maxHeartbeats 400000 in
theorem intact_u8 (F A : Option Addr) (n cF c : Nat) (l : List UInt8) (m : UInt8) (w : World) (hf : Sl w w.heap.size 1 F (n + 80) (bs (l ++ List.replicate 80 m))) (hs : Sl w w.heap.size 1 A n (bs l)) (hc : n + 80 ≤ cF) (hn : n + 80 ≤ 140737488355328) :
    Calls Try.prog 20 #[.slice F (n + 80) cF, .slice A n c, .int .u8 m.toNat] w fun e w' => e = .returned (.bool true) ∧ ∃ k, w' = w.drewN k := by
  have hl : l.length = n := by have := hs.len; rw [bs_length] at this; omega
  have hfr : Sl w w.heap.size 1 F n (bs l) := by
    have h := hf.front (k := n) (by omega)
    rwa [Nat.mul_one, bs_take, ← hl, List.take_left, hl] at h
  have hsame : ∀ w', Sl w' w'.heap.size 1 F n (bs l) → Sl w' w'.heap.size 1 A n (bs l) → Calls Try.prog 17 #[.slice F n cF, .slice A n c] w' fun e w'' => e = .returned (.bool true) ∧ ∃ k, w'' = w'.drewN k := by
    intro w' h1 h2
    have := same_u8 F A n n cF c l l w' h1 h2 (by unfold maxLen; omega)
    rwa [sameB_yes rfl] at this
  have hmark : ∀ j, n ≤ j → j < n + 80 → (l ++ List.replicate 80 m)[j]? = some m := by
    intro j h0 h1
    rw [List.getElem?_append_right (by omega), List.getElem?_replicate, if_pos (by omega)]
  have Hs := Lib.hid hsame
  have Hm := Lib.hid hmark
  clear hsame hmark hl
  have hI0 : ((n : Int) + 80 != (n : Int) + 80) = false := by simp
  go_enter Try.func20, Try.ntmps20
  go_wp2_with (go_at_call 17; refine (Hs.out _ hfr hs).mono ?_; rintro e w' ⟨rfl, kk, rfl⟩)
  go_loop [7] (fun i => ∃ j : Nat, i = .int .i64 j ∧ n ≤ j ∧ j ≤ n + 80) (fun i => n + 80 - (intOf i).toNat)
  case atStart => exact ⟨n, rfl, Nat.le_refl _, by omega⟩
  case round =>
    obtain ⟨j, rfl, hj0, hj1⟩ := hrel
    by_cases hlt : j < n + 80
    · obtain ⟨b, o, x, rfl, hb, hx, hcell⟩ := hf.byte (k := j) hlt
      obtain rfl : m = x := by rw [Hm.out j hj0 hlt] at hx; exact Option.some.inj hx
      clear hx
      have hI : (j : Int) < (n : Int) + 80 := by omega
      have hne : ((m.toNat : Int) != (m.toNat : Int)) = false := by simp
      go_wp2
      go_round
      case rel => exact ⟨j + 1, by go_num, by omega, by omega⟩
      case measure => simp [intOf]; omega
    · obtain rfl : j = n + 80 := by omega
      go_wp2
      go_ret
      exact ⟨rfl, kk, rfl⟩
end Go.Proofs.Ytjcoanpnbaeobaa
