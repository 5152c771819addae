/- Law EncodeNumbers: chapter 6's runs. Conditions: none. -/
import Derived.Test.YtfplkmldleigpaaDoorE3
namespace Go.Proofs.YtfplkmldleigpaaDoor.encodeNumbers
open Go.RowKit
set_option linter.unusedVariables false
set_option linter.unusedSimpArgs false

theorem stepB {W w w' : World} (hB : Below W.heap.size W w) (hb : Below w.heap.size w w') : Below W.heap.size W w' := hB.trans (hb.mono hB.size)
theorem stepA {W w w' : World} {o : Obj} (hB : Below W.heap.size W w) (hb : Below (w.alloc o).heap.size (w.alloc o) w') : Below W.heap.size W w' :=
  (hB.alloc hB.size o).trans (hb.mono (by have := hB.size; simp; omega))
theorem tabA {g : Nat} {w w' : World} {o : Obj} (hT : TabIs g w) (hb : Below (w.alloc o).heap.size (w.alloc o) w') : TabIs g w' := (hT.alloc o).grow hb
theorem slB {w w' : World} {A : Option Addr} {n : Nat} {cs : List Value} (hs : Sl w w.heap.size 1 A n cs) (hb : Below w.heap.size w w') : Sl w' w'.heap.size 1 A n cs := (hs.below hb).more hb.size
theorem slA {w w' : World} {o : Obj} {A : Option Addr} {n : Nat} {cs : List Value} (hs : Sl w w.heap.size 1 A n cs) (hb : Below (w.alloc o).heap.size (w.alloc o) w') : Sl w' w'.heap.size 1 A n cs :=
  slB ((hs.alloc (Nat.le_refl _) o).more (by simp)) hb
/-- a call that returns bytes that are there, and no error -/
def GivesSome (l : List UInt8) (k : Nat) (W : World) (e : Ending) (w' : World) : Prop :=
  ∃ g o c, e = .returned (.tuple #[.slice (some ⟨g, o, none⟩) k c, .int .i64 0]) ∧ Sl w' w'.heap.size 1 (some ⟨g, o, none⟩) k (bs l) ∧ Below W.heap.size W w'
theorem gives_some {W : World} {l : List UInt8} {e : Ending} {w' : World} (hl : 0 < l.length) (h : GivesE W l e w') : GivesSome l l.length W e w' := by
  obtain ⟨A, k, c, rfl, hc, hs, hb⟩ := h
  have h0 := hs.len
  rw [bs_length, Nat.mul_one] at h0
  subst h0
  obtain ⟨g, o, rfl, hg, _⟩ := hs.at_ hl
  exact ⟨g, o, c, rfl, hs, hb⟩
theorem n1 (w : World) (hT : TabIs 0 w) : Calls Tryd.prog 34 #[.agg #[.int .i64 2, .int .i64 0, .int .i64 0, .int .i32 0, .int .i64 0]] w (GivesSome [1] 1 w) := by
  have := encode_yes 2 0 0 0 0 w hT (by omega) (by decide +kernel)
  rw [show encR 2 0 0 0 0 = [1] from by decide +kernel] at this
  exact this.mono fun e w' h => gives_some (by decide) h
theorem n2 (w : World) (hT : TabIs 0 w) : Calls Tryd.prog 34 #[.agg #[.int .i64 13, .int .i64 1, .int .i64 2, .int .i32 0, .int .i64 0]] w (GivesSome [16, 18] 2 w) := by
  have := encode_yes 13 1 2 0 0 w hT (by omega) (by decide +kernel)
  rw [show encR 13 1 2 0 0 = [16, 18] from by decide +kernel] at this
  exact this.mono fun e w' h => gives_some (by decide) h
theorem n3 (w : World) (hT : TabIs 0 w) : Calls Tryd.prog 34 #[.agg #[.int .i64 40, .int .i64 0, .int .i64 0, .int .i32 (-3), .int .i64 1]] w (GivesSome [64, 253] 2 w) := by
  have := encode_yes 40 0 0 (-3) 1 w hT (by omega) (by decide +kernel)
  rw [show encR 40 0 0 (-3) 1 = [64, 253] from by decide +kernel] at this
  exact this.mono fun e w' h => gives_some (by decide) h
theorem n4 (w : World) (hT : TabIs 0 w) : Calls Tryd.prog 34 #[.agg #[.int .i64 42, .int .i64 2, .int .i64 0, .int .i32 300, .int .i64 2]] w (GivesSome [71, 2, 44, 1] 4 w) := by
  have := encode_yes 42 2 0 300 2 w hT (by omega) (by decide +kernel)
  rw [show encR 42 2 0 300 2 = [71, 2, 44, 1] from by decide +kernel] at this
  exact this.mono fun e w' h => gives_some (by decide) h
theorem n5 (w : World) (hT : TabIs 0 w) : Calls Tryd.prog 34 #[.agg #[.int .i64 35, .int .i64 1, .int .i64 2, .int .i32 3, .int .i64 0]] w (GivesSome [38, 1, 35] 3 w) := by
  have := encode_yes 35 1 2 3 0 w hT (by omega) (by decide +kernel)
  rw [show encR 35 1 2 3 0 = [38, 1, 35] from by decide +kernel] at this
  exact this.mono fun e w' h => gives_some (by decide) h
theorem n6 (w : World) (hT : TabIs 0 w) : Calls Tryd.prog 34 #[.agg #[.int .i64 39, .int .i64 0, .int .i64 0, .int .i32 4095, .int .i64 0]] w (GivesSome [51, 0, 255, 15] 4 w) := by
  have := encode_yes 39 0 0 4095 0 w hT (by omega) (by decide +kernel)
  rw [show encR 39 0 0 4095 0 = [51, 0, 255, 15] from by decide +kernel] at this
  exact this.mono fun e w' h => gives_some (by decide) h

theorem n7 (w : World) (hT : TabIs 0 w) : Calls Tryd.prog 38 #[.slice (some ⟨w.heap.size, 0, none⟩) 2 2] (w.alloc (.cells #[.int .i64 2, .int .i64 0, .int .i64 0, .int .i32 0, .int .i64 0, .int .i64 0, .int .i64 0, .int .i64 0, .int .i32 0, .int .i64 0] 35))
    fun e w' => e = .returned (.tuple #[.slice none 0 0, .int .i64 1, .int .i64 11]) ∧ Below (w.alloc (.cells #[.int .i64 2, .int .i64 0, .int .i64 0, .int .i32 0, .int .i64 0, .int .i64 0, .int .i64 0, .int .i64 0, .int .i32 0, .int .i64 0] 35)).heap.size (w.alloc (.cells #[.int .i64 2, .int .i64 0, .int .i64 0, .int .i32 0, .int .i64 0, .int .i64 0, .int .i64 0, .int .i64 0, .int .i32 0, .int .i64 0] 35)) w' := by
  have hs := (sl_new w (insCells [⟨2, 0, 0, 0, 0⟩, ⟨0, 0, 0, 0, 0⟩]) 5 2 rfl 35).more (B' := (w.alloc (.cells (insCells [⟨2, 0, 0, 0, 0⟩, ⟨0, 0, 0, 0, 0⟩]).toArray 35)).heap.size) (by simp)
  refine (all_gen [⟨2, 0, 0, 0, 0⟩, ⟨0, 0, 0, 0, 0⟩] (some ⟨w.heap.size, 0, none⟩) 2 2 _ (hT.alloc _) rfl hs (by omega) (by intro i hi; simp at hi; rcases hi with rfl | rfl <;> exact ⟨by decide, by decide⟩)).mono ?_
  rintro e w' (⟨h, _⟩ | ⟨k, i, hk, ht, hi, rfl, hb⟩)
  · exact absurd (h ⟨0, 0, 0, 0, 0⟩ (by simp)) (by decide +kernel)
  · match k, hk with
    | 0, hk => simp at hk; subst hk; exact absurd (show Ins.chk ⟨2, 0, 0, 0, 0⟩ = 0 by decide +kernel) hi
    | 1, hk =>
      simp at hk
      subst hk
      refine ⟨?_, hb⟩
      rw [show Ins.chk ⟨0, 0, 0, 0, 0⟩ = 11 from by decide +kernel]
      rfl
    | k + 2, hk => simp at hk
theorem n8 (w : World) (hT : TabIs 0 w) : Calls Tryd.prog 38 #[.slice none 0 0] w fun e w' => (∃ A c, e = .returned (.tuple #[.slice A 0 c, .int .i64 0, .int .i64 0])) ∧ Below w.heap.size w w' := by
  refine (all_gen [] none 0 0 w hT rfl (Sl.nil_ _ _ _ _) (by omega) (by simp)).mono ?_
  rintro e w' (⟨_, A, n, c, rfl, _, ho, hb⟩ | ⟨k, i, hk, _⟩)
  · have h0 := ho.1
    simp [encAll, bs] at h0
    subst h0
    exact ⟨⟨A, c, rfl⟩, hb⟩
  · simp at hk

set_option maxHeartbeats 2000000 in
theorem walk (w : World) (hT : TabIs 0 w) :
    Calls Tryd.prog 12 #[] w fun e w' => e = .returned (.bool true) ∧ Below w.heap.size w w' := by
  have hB : Below w.heap.size w w := Below.refl _ _
  go_enter Tryd.func12, Tryd.ntmps12
  go_wp2_with (first
    | (go_at_call 34; (with_reducible refine (n1 _ hT).mono ?_); rintro e w' ⟨g1, o1, c1, rfl, hs1, hb⟩; replace hB := stepB hB hb; replace hT := hT.grow hb; clear hb)
    | (go_at_call 34; (with_reducible refine (n2 _ hT).mono ?_); rintro e w' ⟨g2, o2, c2, rfl, hs2, hb⟩; replace hs1 := slB hs1 hb; replace hB := stepB hB hb; replace hT := hT.grow hb; clear hb)
    | (go_at_call 34; (with_reducible refine (n3 _ hT).mono ?_); rintro e w' ⟨g3, o3, c3, rfl, hs3, hb⟩; replace hs1 := slB hs1 hb; replace hs2 := slB hs2 hb; replace hB := stepB hB hb; replace hT := hT.grow hb; clear hb)
    | (go_at_call 34; (with_reducible refine (n4 _ hT).mono ?_); rintro e w' ⟨g4, o4, c4, rfl, hs4, hb⟩; replace hs1 := slB hs1 hb; replace hs2 := slB hs2 hb; replace hs3 := slB hs3 hb; replace hB := stepB hB hb; replace hT := hT.grow hb; clear hb)
    | (go_at_call 34; (with_reducible refine (n5 _ hT).mono ?_); rintro e w' ⟨g5, o5, c5, rfl, hs5, hb⟩; replace hs1 := slB hs1 hb; replace hs2 := slB hs2 hb; replace hs3 := slB hs3 hb; replace hs4 := slB hs4 hb; replace hB := stepB hB hb; replace hT := hT.grow hb; clear hb)
    | (go_at_call 34; (with_reducible refine (n6 _ hT).mono ?_); rintro e w' ⟨g6, o6, c6, rfl, hs6, hb⟩; replace hs1 := slB hs1 hb; replace hs2 := slB hs2 hb; replace hs3 := slB hs3 hb; replace hs4 := slB hs4 hb; replace hs5 := slB hs5 hb; replace hB := stepB hB hb; replace hT := hT.grow hb; clear hb)
    | (go_at_call 38; (with_reducible refine (n7 _ hT).mono ?_); rintro e w' ⟨rfl, hb⟩; replace hs1 := slA hs1 hb; replace hs2 := slA hs2 hb; replace hs3 := slA hs3 hb; replace hs4 := slA hs4 hb; replace hs5 := slA hs5 hb; replace hs6 := slA hs6 hb; replace hB := stepA hB hb; replace hT := tabA hT hb; clear hb)
    | (go_at_call 38; (with_reducible refine (n8 _ hT).mono ?_); rintro e w' ⟨⟨A8, c8, rfl⟩, hb⟩; replace hs1 := slB hs1 hb; replace hs2 := slB hs2 hb; replace hs3 := slB hs3 hb; replace hs4 := slB hs4 hb; replace hs5 := slB hs5 hb; replace hs6 := slB hs6 hb; replace hB := stepB hB hb; replace hT := hT.grow hb; clear hb; have hstr1 := str_lit (c := c1) hs1 (fun h => by cases h); have hstr2 := str_lit (c := c2) hs2 (fun h => by cases h); have hstr3 := str_lit (c := c3) hs3 (fun h => by cases h); have hstr4 := str_lit (c := c4) hs4 (fun h => by cases h); have hstr5 := str_lit (c := c5) hs5 (fun h => by cases h); have hstr6 := str_lit (c := c6) hs6 (fun h => by cases h))
    | (go_at_call 37; refine (known6_any _ hT).mono ?_; rintro e w' ⟨rfl, hb⟩; replace hB := stepB hB hb))
  go_ret
  exact ⟨rfl, hB⟩
end Go.Proofs.YtfplkmldleigpaaDoor.encodeNumbers
