/- The walk of decode's find: a first byte's operation and form. Conditions: none. -/
import Derived.Test.YthcjnkakfpmpbaaDoorD1
import Derived.Test.YthcjnkakfpmpbaaDoorB3
import Derived.Test.YthcjnkakfpmpbaaDoorP9
import Derived.Test.YthcjnkakfpmpbaaDoorR3
import Derived.Deep.MidRow
namespace Go.Proofs.YthcjnkakfpmpbaaDoor
open Go.RowKit
set_option linter.unusedVariables false
set_option linter.unusedSimpArgs false

noncomputable def find7 : Array Oper := regOf Tryd.f44.body 7
noncomputable def find9 : Array Oper := regOf Tryd.f44.body 9
/-- what a drawn region of find needs of the world -/
def FindS (W : World) (X : Nat) (N : ByteArray) (B H : Int) (w' : World) : Prop :=
  Below W.heap.size W w' ∧ w'.cell? ⟨X, 0, none⟩ = some (.string N) ∧ w'.cell? ⟨X, 1, none⟩ = some (.int .u8 B) ∧ w'.cell? ⟨X, 2, none⟩ = some (.int .i64 H)
theorem keepS {W w1 : World} {X : Nat} {N : ByteArray} {B H : Int} {vs : List Value} (hS : FindS W X N B H w1) (hXR : X ≠ W.heap.size) : FindS W X N B H (w1.setCells W.heap.size 0 vs) := by
  obtain ⟨h0, h1, h2, h3⟩ := hS
  have hc : ∀ k, (w1.setCells W.heap.size 0 vs).cell? ⟨X, k, none⟩ = w1.cell? ⟨X, k, none⟩ := fun k => World.cell?_setCells_out W.heap.size vs 0 w1 ⟨X, k, none⟩ (fun h _ => absurd h hXR)
  refine ⟨?_, (hc 0).trans h1, (hc 1).trans h2, (hc 2).trans h3⟩
  have key : ∀ (vs : List Value) (o : Nat) (w1 : World), Below W.heap.size W w1 → Below W.heap.size W (w1.setCells W.heap.size o vs) := by
    intro vs
    induction vs with
    | nil => intro o w1 h; exact h
    | cons v r ih => intro o w1 h; exact ih (o + 1) _ (h.setCell (Nat.le_refl _) v)
  exact key vs 0 w1 h0
theorem blk3 {w1 : World} {g : Nat} {t : TypeId} {z0 z1 z2 a b c : Value} (h : Blk w1 g t [z0, z1, z2]) : (w1.setCells g 0 [a, b, c]).cell? ⟨g, 0, none⟩ = some a ∧ (w1.setCells g 0 [a, b, c]).cell? ⟨g, 1, none⟩ = some b ∧ (w1.setCells g 0 [a, b, c]).cell? ⟨g, 2, none⟩ = some c :=
  have h3 := ((h.set_ 0 a).set_ 1 b).set_ 2 c
  ⟨h3.cell 0, h3.cell 1, h3.cell 2⟩
theorem there3 {w1 : World} {g : Nat} {t : TypeId} {z0 z1 z2 : Value} (h : Blk w1 g t [z0, z1, z2]) : w1.there g 0 3 :=
  fun t ht => ⟨by rw [Nat.zero_add, h.cell, List.getElem?_eq_getElem (by simpa using ht)]; rfl, h.free _⟩

set_option maxRecDepth 20000 in
set_option maxHeartbeats 4000000 in
theorem dfind_any (c : Int) (w : World) (hT : TabIs 0 w) (h0 : 0 ≤ c) (h1 : c < 256) :
    Calls Tryd.prog 44 #[.int .u8 c] w fun e w' => e = .returned (.tuple #[.int .i64 (byteD c).1, opVal (byteD c).1, .int .i64 (byteD c).2, .bool (isOp (byteD c).1)]) ∧ Below w.heap.size w w' := by
  obtain ⟨r, hr⟩ : ∃ r, r = byteD c := ⟨_, rfl⟩
  rw [← hr]
  have HR := Lib.hid hr
  clear hr
  go_enter Tryd.func44, Tryd.ntmps44
  go_wp2
  go_loopw [6] (fun i wr => ∃ k : Nat, i = .int .i64 ((k : Int) + 1) ∧ k ≤ 43 ∧ Hid (r = findD (43 - k) k c) ∧ Below (w.heap.size + 1) (w.alloc (.cells #[.string ⟨#[]⟩, .int .u8 0, .int .i64 0] 97)) wr) (fun i _ => 45 - (intOf i).toNat)
  case atStart => exact ⟨0, rfl, Nat.zero_le _, Lib.hid (by rw [HR.out]; rfl), Below.refl _ _⟩
  case round =>
    obtain ⟨k, rfl, hk, hf, hbr⟩ := hrel
    have hzr := hbr.size
    simp at hzr
    have hTr : TabIs 0 wr := ((hT.alloc _).below hbr (by have := hT.lt; omega))
    have hRb : Blk wr w.heap.size 97 [.string ⟨#[]⟩, .int .u8 0, .int .i64 0] := (Blk.new w _ _).below hbr (by omega)
    have hBr : Below w.heap.size w wr := ((Below.refl _ _).alloc (Nat.le_refl _) _).trans (hbr.mono (by omega))
    by_cases hlt : k < 43
    · have hI : (k : Int) < 43 := by omega
      have hat := fun w hT => at_any ((k : Int) + 1) w hT
      have hsp := fun w hT => spans_any ((k : Int) + 1) w hT
      rw [isOp_yes k hlt] at hat
      have hB := byte_small k hlt
      have hfm := fun h => findD_miss (c := c) hlt h
      have hfh := fun h => findD_hit (c := c) hlt h
      have HO := Lib.hid (show opVal ((k : Int) + 1) = .agg #[.string ⟨(opName ((k : Int) + 1)).toArray⟩, .int .u8 (opByte ((k : Int) + 1)), .int .i64 (opShape ((k : Int) + 1))] from rfl)
      unfold hitB at hfm hfh
      unfold formD at hfh
      have Hat := Lib.hid hat
      have Hsp := Lib.hid hsp
      clear hat hsp hT
      generalize (⟨(opName ((k : Int) + 1)).toArray⟩ : ByteArray) = N at *
      generalize opByte ((k : Int) + 1) = B at *
      generalize opShape ((k : Int) + 1) = H at *
      generalize spansB ((k : Int) + 1) = SB at *
      obtain ⟨hB0, hB1⟩ := hB
      cases SB
      · simp only [Bool.false_eq_true, if_false] at hfm hfh
        by_cases hc : c = B
        · have HH := Lib.hid (hfh (by simpa using hc))
          clear hfm hfh
          have hc1 : (c == B) = true := by simpa using hc
          clear hc
          go_wp2_with (first
            | (go_at_call 54; refine (Hat.out _ hTr).mono ?_; rintro e w1 ⟨rfl, hb1⟩; have hT1 := hTr.grow hb1; have hz1 := hb1.size; have hR1 := hRb.below hb1 (by omega))
            | (go_at_call 71; refine (Hsp.out _ (hT1.alloc _)).mono ?_; rintro e w2 ⟨rfl, hb2⟩; have hT2 := (hT1.alloc _).grow hb2; have hz2 : w1.heap.size < w2.heap.size := (by have := hb2.size; simp at this; omega); have hR2 := (hR1.alloc _).below hb2 (by simp; omega); have hX2 := (Blk.new w1 97 [.string N, .int .u8 B, .int .i64 H]).below hb2 (by simp); have x0 := hX2.cell 0; have x1 := hX2.cell 1; have x2 := hX2.cell 2; simp only [List.getElem?_cons_zero, List.getElem?_cons_succ] at x0 x1 x2; have hB2 : Below w.heap.size w w2 := ((hBr.trans (hb1.mono (by omega))).alloc (by omega) _).trans (hb2.mono (by simp; omega)); have hXn : w1.heap.size ≠ w.heap.size := (by omega)))
          have hthere : World.there w2.drew w.heap.size 0 3 := there3 (show Blk w2.drew w.heap.size 97 [.string ⟨#[]⟩, .int .u8 0, .int .i64 0] from hR2)
          refine held_start (ops' := find7) (l0 := #[false, false, false, false, false, false]) (S := FindS w w1.heap.size N B H) (by kernel_rfl) (by kernel_rfl) (by kernel_rfl) (by kernel_rfl) ⟨hB2.drew, x0, x1, x2⟩ (fun R hR => ?_)
          (refine held_take (v := ?_) (d := some 30) 0 (by kernel_rfl) (by kernel_rfl) rfl ?_ ?_
           rotate_left
           · intro w hSw
             conv in opOf _ _ => whnf
             obtain ⟨hs0, hs1, hs2, hs3⟩ := hSw
             go_simp
             try (with_reducible rfl)
           try simp only [Act.put, List.setIfInBounds_toArray, List.set_cons_zero, List.set_cons_succ])
          (refine held_take (v := ?_) (d := some 31) 1 (by kernel_rfl) (by kernel_rfl) rfl ?_ ?_
           rotate_left
           · intro w hSw
             conv in opOf _ _ => whnf
             obtain ⟨hs0, hs1, hs2, hs3⟩ := hSw
             go_simp
             try (with_reducible rfl)
           try simp only [Act.put, List.setIfInBounds_toArray, List.set_cons_zero, List.set_cons_succ])
          (refine held_take (v := ?_) (d := some 2) 2 (by kernel_rfl) (by kernel_rfl) rfl ?_ ?_
           rotate_left
           · intro w hSw
             conv in opOf _ _ => whnf
             obtain ⟨hs0, hs1, hs2, hs3⟩ := hSw
             go_simp
             try (with_reducible rfl)
           try simp only [Act.put, List.setIfInBounds_toArray, List.set_cons_zero, List.set_cons_succ])
          (refine held_one 3 (by kernel_rfl) (by kernel_rfl) (held_store (d := none) 3 (by kernel_rfl) (by kernel_rfl) rfl 97 (.tmp 3) (.tmp 31) (by kernel_rfl) w.heap.size 0 #[.string N, .int .u8 B, .int .i64 H] (by kernel_rfl) (by kernel_rfl) (fun _ => hthere) (by kernel_rfl) (by simp [Value.oneCell']) (fun hS => ⟨keepS hS hXn, ?_⟩))
           try simp only [Act.put, List.setIfInBounds_toArray, List.set_cons_zero, List.set_cons_succ])
          (refine held_take (v := ?_) (d := some 4) 4 (by kernel_rfl) (by kernel_rfl) rfl ?_ ?_
           rotate_left
           · intro w hSw
             conv in opOf _ _ => whnf
             obtain ⟨hs0, hs1, hs2, hs3⟩ := hSw
             go_simp
             try (with_reducible rfl)
           try simp only [Act.put, List.setIfInBounds_toArray, List.set_cons_zero, List.set_cons_succ])
          (refine held_take (v := ?_) (d := some 5) 5 (by kernel_rfl) (by kernel_rfl) rfl ?_ ?_
           rotate_left
           · intro w hSw
             conv in opOf _ _ => whnf
             obtain ⟨hs0, hs1, hs2, hs3⟩ := hSw
             go_simp
             try (with_reducible rfl)
           try simp only [Act.put, List.setIfInBounds_toArray, List.set_cons_zero, List.set_cons_succ])
          refine held_done (by kernel_rfl) (fun hS => hR.out _ _ ?_)
          obtain ⟨z0, z1, z2⟩ := blk3 (a := .string N) (b := .int .u8 B) (c := .int .i64 H) (show Blk w2.drew w.heap.size 97 [.string ⟨#[]⟩, .int .u8 0, .int .i64 0] from hR2)
          go_wp2_with fail
          refine bodyPost_ret (v := .tuple #[.int .i64 ((k : Int) + 1), .agg #[.string N, .int .u8 B, .int .i64 H], .int .i64 0, .bool true]) (by simp [results, Tryd.results44, go_sem, z0, z1, z2]) rfl ⟨?_, hS.1⟩
          rw [hf.out, HH.out]
          simp only [isOp_yes k hlt, HO.out]
        · have HM := Lib.hid (hfm (by simpa using hc))
          clear hfm hfh
          have hc1 : (c == B) = false := by simpa using hc
          go_wp2_with (first
            | (go_at_call 54; refine (Hat.out _ hTr).mono ?_; rintro e w1 ⟨rfl, hb1⟩; have hT1 := hTr.grow hb1; have hz1 := hb1.size; have hR1 := hRb.below hb1 (by omega))
            | (go_at_call 71; refine (Hsp.out _ (hT1.alloc _)).mono ?_; rintro e w2 ⟨rfl, hb2⟩; have hT2 := (hT1.alloc _).grow hb2; have hz2 : w1.heap.size < w2.heap.size := (by have := hb2.size; simp at this; omega); have hR2 := (hR1.alloc _).below hb2 (by simp; omega); have hX2 := (Blk.new w1 97 [.string N, .int .u8 B, .int .i64 H]).below hb2 (by simp); have x0 := hX2.cell 0; have x1 := hX2.cell 1; have x2 := hX2.cell 2; simp only [List.getElem?_cons_zero, List.getElem?_cons_succ] at x0 x1 x2; have hB2 : Below w.heap.size w w2 := ((hBr.trans (hb1.mono (by omega))).alloc (by omega) _).trans (hb2.mono (by simp; omega)); have hXn : w1.heap.size ≠ w.heap.size := (by omega))
            | (go_at_call 71; refine (Hsp.out _ hT2).mono ?_; rintro e w3 ⟨rfl, hb3⟩; have hT3 := hT2.grow hb3; have hz3 := hb3.size; have hR3 := hR2.below hb3 (by omega); have hX3 := hX2.below hb3 hz2; have y0 := hX3.cell 0; have y1 := hX3.cell 1; have y2 := hX3.cell 2; simp only [List.getElem?_cons_zero, List.getElem?_cons_succ] at y0 y1 y2; have hB3 : Below w.heap.size w w3 := hB2.trans (hb3.mono (by omega))))
          go_roundw
          case rel => exact ⟨k + 1, by go_num, by omega, Lib.hid (by rw [hf.out, HM.out]), (((hbr.trans (hb1.mono (by omega))).alloc (by omega) _).trans (hb2.mono (by simp; omega))).trans (hb3.mono (by omega))⟩
          case measure => simp [intOf]; omega
      · simp only [if_true] at hfm hfh
        by_cases hc : B ≤ c ∧ c - B < 3
        · obtain ⟨hc0, hc2⟩ := hc
          have HH' := hfh (by simp; exact ⟨hc0, hc2⟩)
          rcases (show c - B = 0 ∨ c - B = 1 ∨ c - B = 2 by omega) with hd | hd | hd
          all_goals
            rw [hd] at HH'
            have HH := Lib.hid HH'
            clear hfm hfh HH'
            have hsub : IntKind.u8.wrap (c - B) = c - B := by simp [IntKind.wrap, IntKind.bits, IntKind.signed]; omega
            rw [hd] at hsub
            have hlt3 : c - B < 3 := hc2
            have hw1 : IntKind.i64.wrap 1 = 1 := by decide
            have hw2 : IntKind.i64.wrap 2 = 2 := by decide
            have hw4 : IntKind.i64.wrap 4 = 4 := by decide
            go_wp2_with (first
              | (go_at_call 54; refine (Hat.out _ hTr).mono ?_; rintro e w1 ⟨rfl, hb1⟩; have hT1 := hTr.grow hb1; have hz1 := hb1.size; have hR1 := hRb.below hb1 (by omega))
              | (go_at_call 71; refine (Hsp.out _ (hT1.alloc _)).mono ?_; rintro e w2 ⟨rfl, hb2⟩; have hT2 := (hT1.alloc _).grow hb2; have hz2 : w1.heap.size < w2.heap.size := (by have := hb2.size; simp at this; omega); have hR2 := (hR1.alloc _).below hb2 (by simp; omega); have hX2 := (Blk.new w1 97 [.string N, .int .u8 B, .int .i64 H]).below hb2 (by simp); have x0 := hX2.cell 0; have x1 := hX2.cell 1; have x2 := hX2.cell 2; simp only [List.getElem?_cons_zero, List.getElem?_cons_succ] at x0 x1 x2; have hB2 : Below w.heap.size w w2 := ((hBr.trans (hb1.mono (by omega))).alloc (by omega) _).trans (hb2.mono (by simp; omega)); have hXn : w1.heap.size ≠ w.heap.size := (by omega))
              | (go_at_call 71; refine (Hsp.out _ hT2).mono ?_; rintro e w3 ⟨rfl, hb3⟩; have hT3 := hT2.grow hb3; have hz3 := hb3.size; have hR3 := hR2.below hb3 (by omega); have hX3 := hX2.below hb3 hz2; have y0 := hX3.cell 0; have y1 := hX3.cell 1; have y2 := hX3.cell 2; simp only [List.getElem?_cons_zero, List.getElem?_cons_succ] at y0 y1 y2; have hB3 : Below w.heap.size w w3 := hB2.trans (hb3.mono (by omega))))
          · have hthere : World.there w3.drew w.heap.size 0 3 := there3 (show Blk w3.drew w.heap.size 97 [.string ⟨#[]⟩, .int .u8 0, .int .i64 0] from hR3)
            refine held_start (ops' := find9) (l0 := #[false, false, false, false, false, false, false, false, false, false, false]) (S := FindS w w1.heap.size N B H) (by kernel_rfl) (by kernel_rfl) (by kernel_rfl) (by kernel_rfl) ⟨hB3.drew, y0, y1, y2⟩ (fun R hR => ?_)
            (refine held_take (v := ?_) (d := some 48) 0 (by kernel_rfl) (by kernel_rfl) rfl ?_ ?_
             rotate_left
             · intro w hSw
               conv in opOf _ _ => whnf
               obtain ⟨hs0, hs1, hs2, hs3⟩ := hSw
               go_simp
               try (with_reducible rfl)
             try simp only [Act.put, List.setIfInBounds_toArray, List.set_cons_zero, List.set_cons_succ])
            (refine held_take (v := ?_) (d := some 49) 1 (by kernel_rfl) (by kernel_rfl) rfl ?_ ?_
             rotate_left
             · intro w hSw
               conv in opOf _ _ => whnf
               obtain ⟨hs0, hs1, hs2, hs3⟩ := hSw
               go_simp
               try (with_reducible rfl)
             try simp only [Act.put, List.setIfInBounds_toArray, List.set_cons_zero, List.set_cons_succ])
            (refine held_take (v := ?_) (d := some 50) 2 (by kernel_rfl) (by kernel_rfl) rfl ?_ ?_
             rotate_left
             · intro w hSw
               conv in opOf _ _ => whnf
               obtain ⟨hs0, hs1, hs2, hs3⟩ := hSw
               go_simp
               try (with_reducible rfl)
             try simp only [Act.put, List.setIfInBounds_toArray, List.set_cons_zero, List.set_cons_succ])
            (refine held_take (v := ?_) (d := some 51) 3 (by kernel_rfl) (by kernel_rfl) rfl ?_ ?_
             rotate_left
             · intro w hSw
               conv in opOf _ _ => whnf
               obtain ⟨hs0, hs1, hs2, hs3⟩ := hSw
               go_simp
               try (with_reducible rfl)
             try simp only [Act.put, List.setIfInBounds_toArray, List.set_cons_zero, List.set_cons_succ])
            (refine held_take (v := ?_) (d := some 2) 7 (by kernel_rfl) (by kernel_rfl) rfl ?_ ?_
             rotate_left
             · intro w hSw
               conv in opOf _ _ => whnf
               obtain ⟨hs0, hs1, hs2, hs3⟩ := hSw
               go_simp
               try (with_reducible rfl)
             try simp only [Act.put, List.setIfInBounds_toArray, List.set_cons_zero, List.set_cons_succ])
            refine held_two 4 8 (by kernel_rfl) (by kernel_rfl) (by kernel_rfl) ?_ ?_
            · (refine held_run (v := ?_) (w' := ?_) (d := some 52) 4 (by kernel_rfl) (by kernel_rfl) rfl ?_ ?_
               rotate_left 2
               · rintro ⟨hs0, hs1, hs2, hs3⟩
                 conv in opOf _ _ => whnf
                 go_simp
                 first | done | (with_reducible rfl) | (constructor <;> with_reducible rfl)
               intro hS
               refine ⟨hS, ?_⟩
               try simp only [Act.put, List.setIfInBounds_toArray, List.set_cons_zero, List.set_cons_succ])
              (refine held_take (v := ?_) (d := some 53) 5 (by kernel_rfl) (by kernel_rfl) rfl ?_ ?_
               rotate_left
               · intro w hSw
                 conv in opOf _ _ => whnf
                 obtain ⟨hs0, hs1, hs2, hs3⟩ := hSw
                 go_simp
                 try simp only [hsub]
                 try (with_reducible rfl)
               try simp only [Act.put, List.setIfInBounds_toArray, List.set_cons_zero, List.set_cons_succ])
              (refine held_take (v := ?_) (d := some 54) 6 (by kernel_rfl) (by kernel_rfl) rfl ?_ ?_
               rotate_left
               · intro w hSw
                 conv in opOf _ _ => whnf
                 obtain ⟨hs0, hs1, hs2, hs3⟩ := hSw
                 go_simp
                 try simp only [hw1, hw2, hw4]
                 try (with_reducible rfl)
               try simp only [Act.put, List.setIfInBounds_toArray, List.set_cons_zero, List.set_cons_succ])
              (refine held_one 8 (by kernel_rfl) (by kernel_rfl) (held_store (d := none) 8 (by kernel_rfl) (by kernel_rfl) rfl 97 (.tmp 3) (.tmp 49) (by kernel_rfl) w.heap.size 0 #[.string N, .int .u8 B, .int .i64 H] (by kernel_rfl) (by kernel_rfl) (fun _ => hthere) (by kernel_rfl) (by simp [Value.oneCell']) (fun hS => ⟨keepS hS hXn, ?_⟩))
               try simp only [Act.put, List.setIfInBounds_toArray, List.set_cons_zero, List.set_cons_succ])
              (refine held_take (v := ?_) (d := some 4) 9 (by kernel_rfl) (by kernel_rfl) rfl ?_ ?_
               rotate_left
               · intro w hSw
                 conv in opOf _ _ => whnf
                 obtain ⟨hs0, hs1, hs2, hs3⟩ := hSw
                 go_simp
                 try (with_reducible rfl)
               try simp only [Act.put, List.setIfInBounds_toArray, List.set_cons_zero, List.set_cons_succ])
              (refine held_take (v := ?_) (d := some 5) 10 (by kernel_rfl) (by kernel_rfl) rfl ?_ ?_
               rotate_left
               · intro w hSw
                 conv in opOf _ _ => whnf
                 obtain ⟨hs0, hs1, hs2, hs3⟩ := hSw
                 go_simp
                 try (with_reducible rfl)
               try simp only [Act.put, List.setIfInBounds_toArray, List.set_cons_zero, List.set_cons_succ])
              refine held_done (by kernel_rfl) (fun hS => hR.out _ _ ?_)
              obtain ⟨z0, z1, z2⟩ := blk3 (a := .string N) (b := .int .u8 B) (c := .int .i64 H) (show Blk w3.drew w.heap.size 97 [.string ⟨#[]⟩, .int .u8 0, .int .i64 0] from hR3)
              go_wp2_with fail
              refine bodyPost_ret (v := .tuple #[.int .i64 ((k : Int) + 1), .agg #[.string N, .int .u8 B, .int .i64 H], .int .i64 1, .bool true]) (by simp [results, Tryd.results44, go_sem, z0, z1, z2]) rfl ⟨?_, hS.1⟩
              rw [hf.out, HH.out]
              simp only [isOp_yes k hlt, HO.out]
              rfl
            · (refine (held_store (d := none) 8 (by kernel_rfl) (by kernel_rfl) rfl 97 (.tmp 3) (.tmp 49) (by kernel_rfl) w.heap.size 0 #[.string N, .int .u8 B, .int .i64 H] (by kernel_rfl) (by kernel_rfl) (fun _ => hthere) (by kernel_rfl) (by simp [Value.oneCell']) (fun hS => ⟨keepS hS hXn, ?_⟩))
               try simp only [Act.put, List.setIfInBounds_toArray, List.set_cons_zero, List.set_cons_succ])
              (refine held_take (v := ?_) (d := some 52) 4 (by kernel_rfl) (by kernel_rfl) rfl ?_ ?_
               rotate_left
               · intro w hSw
                 conv in opOf _ _ => whnf
                 obtain ⟨hs0, hs1, hs2, hs3⟩ := hSw
                 go_simp
                 try (with_reducible rfl)
               try simp only [Act.put, List.setIfInBounds_toArray, List.set_cons_zero, List.set_cons_succ])
              (refine held_take (v := ?_) (d := some 53) 5 (by kernel_rfl) (by kernel_rfl) rfl ?_ ?_
               rotate_left
               · intro w hSw
                 conv in opOf _ _ => whnf
                 obtain ⟨hs0, hs1, hs2, hs3⟩ := hSw
                 go_simp
                 try simp only [hsub]
                 try (with_reducible rfl)
               try simp only [Act.put, List.setIfInBounds_toArray, List.set_cons_zero, List.set_cons_succ])
              (refine held_take (v := ?_) (d := some 54) 6 (by kernel_rfl) (by kernel_rfl) rfl ?_ ?_
               rotate_left
               · intro w hSw
                 conv in opOf _ _ => whnf
                 obtain ⟨hs0, hs1, hs2, hs3⟩ := hSw
                 go_simp
                 try simp only [hw1, hw2, hw4]
                 try (with_reducible rfl)
               try simp only [Act.put, List.setIfInBounds_toArray, List.set_cons_zero, List.set_cons_succ])
              (refine held_take (v := ?_) (d := some 4) 9 (by kernel_rfl) (by kernel_rfl) rfl ?_ ?_
               rotate_left
               · intro w hSw
                 conv in opOf _ _ => whnf
                 obtain ⟨hs0, hs1, hs2, hs3⟩ := hSw
                 go_simp
                 try (with_reducible rfl)
               try simp only [Act.put, List.setIfInBounds_toArray, List.set_cons_zero, List.set_cons_succ])
              (refine held_take (v := ?_) (d := some 5) 10 (by kernel_rfl) (by kernel_rfl) rfl ?_ ?_
               rotate_left
               · intro w hSw
                 conv in opOf _ _ => whnf
                 obtain ⟨hs0, hs1, hs2, hs3⟩ := hSw
                 go_simp
                 try (with_reducible rfl)
               try simp only [Act.put, List.setIfInBounds_toArray, List.set_cons_zero, List.set_cons_succ])
              refine held_done (by kernel_rfl) (fun hS => hR.out _ _ ?_)
              obtain ⟨z0, z1, z2⟩ := blk3 (a := .string N) (b := .int .u8 B) (c := .int .i64 H) (show Blk w3.drew w.heap.size 97 [.string ⟨#[]⟩, .int .u8 0, .int .i64 0] from hR3)
              go_wp2_with fail
              refine bodyPost_ret (v := .tuple #[.int .i64 ((k : Int) + 1), .agg #[.string N, .int .u8 B, .int .i64 H], .int .i64 1, .bool true]) (by simp [results, Tryd.results44, go_sem, z0, z1, z2]) rfl ⟨?_, hS.1⟩
              rw [hf.out, HH.out]
              simp only [isOp_yes k hlt, HO.out]
              rfl
          · have hthere : World.there w3.drew w.heap.size 0 3 := there3 (show Blk w3.drew w.heap.size 97 [.string ⟨#[]⟩, .int .u8 0, .int .i64 0] from hR3)
            refine held_start (ops' := find9) (l0 := #[false, false, false, false, false, false, false, false, false, false, false]) (S := FindS w w1.heap.size N B H) (by kernel_rfl) (by kernel_rfl) (by kernel_rfl) (by kernel_rfl) ⟨hB3.drew, y0, y1, y2⟩ (fun R hR => ?_)
            (refine held_take (v := ?_) (d := some 48) 0 (by kernel_rfl) (by kernel_rfl) rfl ?_ ?_
             rotate_left
             · intro w hSw
               conv in opOf _ _ => whnf
               obtain ⟨hs0, hs1, hs2, hs3⟩ := hSw
               go_simp
               try (with_reducible rfl)
             try simp only [Act.put, List.setIfInBounds_toArray, List.set_cons_zero, List.set_cons_succ])
            (refine held_take (v := ?_) (d := some 49) 1 (by kernel_rfl) (by kernel_rfl) rfl ?_ ?_
             rotate_left
             · intro w hSw
               conv in opOf _ _ => whnf
               obtain ⟨hs0, hs1, hs2, hs3⟩ := hSw
               go_simp
               try (with_reducible rfl)
             try simp only [Act.put, List.setIfInBounds_toArray, List.set_cons_zero, List.set_cons_succ])
            (refine held_take (v := ?_) (d := some 50) 2 (by kernel_rfl) (by kernel_rfl) rfl ?_ ?_
             rotate_left
             · intro w hSw
               conv in opOf _ _ => whnf
               obtain ⟨hs0, hs1, hs2, hs3⟩ := hSw
               go_simp
               try (with_reducible rfl)
             try simp only [Act.put, List.setIfInBounds_toArray, List.set_cons_zero, List.set_cons_succ])
            (refine held_take (v := ?_) (d := some 51) 3 (by kernel_rfl) (by kernel_rfl) rfl ?_ ?_
             rotate_left
             · intro w hSw
               conv in opOf _ _ => whnf
               obtain ⟨hs0, hs1, hs2, hs3⟩ := hSw
               go_simp
               try (with_reducible rfl)
             try simp only [Act.put, List.setIfInBounds_toArray, List.set_cons_zero, List.set_cons_succ])
            (refine held_take (v := ?_) (d := some 2) 7 (by kernel_rfl) (by kernel_rfl) rfl ?_ ?_
             rotate_left
             · intro w hSw
               conv in opOf _ _ => whnf
               obtain ⟨hs0, hs1, hs2, hs3⟩ := hSw
               go_simp
               try (with_reducible rfl)
             try simp only [Act.put, List.setIfInBounds_toArray, List.set_cons_zero, List.set_cons_succ])
            refine held_two 4 8 (by kernel_rfl) (by kernel_rfl) (by kernel_rfl) ?_ ?_
            · (refine held_run (v := ?_) (w' := ?_) (d := some 52) 4 (by kernel_rfl) (by kernel_rfl) rfl ?_ ?_
               rotate_left 2
               · rintro ⟨hs0, hs1, hs2, hs3⟩
                 conv in opOf _ _ => whnf
                 go_simp
                 first | done | (with_reducible rfl) | (constructor <;> with_reducible rfl)
               intro hS
               refine ⟨hS, ?_⟩
               try simp only [Act.put, List.setIfInBounds_toArray, List.set_cons_zero, List.set_cons_succ])
              (refine held_take (v := ?_) (d := some 53) 5 (by kernel_rfl) (by kernel_rfl) rfl ?_ ?_
               rotate_left
               · intro w hSw
                 conv in opOf _ _ => whnf
                 obtain ⟨hs0, hs1, hs2, hs3⟩ := hSw
                 go_simp
                 try simp only [hsub]
                 try (with_reducible rfl)
               try simp only [Act.put, List.setIfInBounds_toArray, List.set_cons_zero, List.set_cons_succ])
              (refine held_take (v := ?_) (d := some 54) 6 (by kernel_rfl) (by kernel_rfl) rfl ?_ ?_
               rotate_left
               · intro w hSw
                 conv in opOf _ _ => whnf
                 obtain ⟨hs0, hs1, hs2, hs3⟩ := hSw
                 go_simp
                 try simp only [hw1, hw2, hw4]
                 try (with_reducible rfl)
               try simp only [Act.put, List.setIfInBounds_toArray, List.set_cons_zero, List.set_cons_succ])
              (refine held_one 8 (by kernel_rfl) (by kernel_rfl) (held_store (d := none) 8 (by kernel_rfl) (by kernel_rfl) rfl 97 (.tmp 3) (.tmp 49) (by kernel_rfl) w.heap.size 0 #[.string N, .int .u8 B, .int .i64 H] (by kernel_rfl) (by kernel_rfl) (fun _ => hthere) (by kernel_rfl) (by simp [Value.oneCell']) (fun hS => ⟨keepS hS hXn, ?_⟩))
               try simp only [Act.put, List.setIfInBounds_toArray, List.set_cons_zero, List.set_cons_succ])
              (refine held_take (v := ?_) (d := some 4) 9 (by kernel_rfl) (by kernel_rfl) rfl ?_ ?_
               rotate_left
               · intro w hSw
                 conv in opOf _ _ => whnf
                 obtain ⟨hs0, hs1, hs2, hs3⟩ := hSw
                 go_simp
                 try (with_reducible rfl)
               try simp only [Act.put, List.setIfInBounds_toArray, List.set_cons_zero, List.set_cons_succ])
              (refine held_take (v := ?_) (d := some 5) 10 (by kernel_rfl) (by kernel_rfl) rfl ?_ ?_
               rotate_left
               · intro w hSw
                 conv in opOf _ _ => whnf
                 obtain ⟨hs0, hs1, hs2, hs3⟩ := hSw
                 go_simp
                 try (with_reducible rfl)
               try simp only [Act.put, List.setIfInBounds_toArray, List.set_cons_zero, List.set_cons_succ])
              refine held_done (by kernel_rfl) (fun hS => hR.out _ _ ?_)
              obtain ⟨z0, z1, z2⟩ := blk3 (a := .string N) (b := .int .u8 B) (c := .int .i64 H) (show Blk w3.drew w.heap.size 97 [.string ⟨#[]⟩, .int .u8 0, .int .i64 0] from hR3)
              go_wp2_with fail
              refine bodyPost_ret (v := .tuple #[.int .i64 ((k : Int) + 1), .agg #[.string N, .int .u8 B, .int .i64 H], .int .i64 2, .bool true]) (by simp [results, Tryd.results44, go_sem, z0, z1, z2]) rfl ⟨?_, hS.1⟩
              rw [hf.out, HH.out]
              simp only [isOp_yes k hlt, HO.out]
              rfl
            · (refine (held_store (d := none) 8 (by kernel_rfl) (by kernel_rfl) rfl 97 (.tmp 3) (.tmp 49) (by kernel_rfl) w.heap.size 0 #[.string N, .int .u8 B, .int .i64 H] (by kernel_rfl) (by kernel_rfl) (fun _ => hthere) (by kernel_rfl) (by simp [Value.oneCell']) (fun hS => ⟨keepS hS hXn, ?_⟩))
               try simp only [Act.put, List.setIfInBounds_toArray, List.set_cons_zero, List.set_cons_succ])
              (refine held_take (v := ?_) (d := some 52) 4 (by kernel_rfl) (by kernel_rfl) rfl ?_ ?_
               rotate_left
               · intro w hSw
                 conv in opOf _ _ => whnf
                 obtain ⟨hs0, hs1, hs2, hs3⟩ := hSw
                 go_simp
                 try (with_reducible rfl)
               try simp only [Act.put, List.setIfInBounds_toArray, List.set_cons_zero, List.set_cons_succ])
              (refine held_take (v := ?_) (d := some 53) 5 (by kernel_rfl) (by kernel_rfl) rfl ?_ ?_
               rotate_left
               · intro w hSw
                 conv in opOf _ _ => whnf
                 obtain ⟨hs0, hs1, hs2, hs3⟩ := hSw
                 go_simp
                 try simp only [hsub]
                 try (with_reducible rfl)
               try simp only [Act.put, List.setIfInBounds_toArray, List.set_cons_zero, List.set_cons_succ])
              (refine held_take (v := ?_) (d := some 54) 6 (by kernel_rfl) (by kernel_rfl) rfl ?_ ?_
               rotate_left
               · intro w hSw
                 conv in opOf _ _ => whnf
                 obtain ⟨hs0, hs1, hs2, hs3⟩ := hSw
                 go_simp
                 try simp only [hw1, hw2, hw4]
                 try (with_reducible rfl)
               try simp only [Act.put, List.setIfInBounds_toArray, List.set_cons_zero, List.set_cons_succ])
              (refine held_take (v := ?_) (d := some 4) 9 (by kernel_rfl) (by kernel_rfl) rfl ?_ ?_
               rotate_left
               · intro w hSw
                 conv in opOf _ _ => whnf
                 obtain ⟨hs0, hs1, hs2, hs3⟩ := hSw
                 go_simp
                 try (with_reducible rfl)
               try simp only [Act.put, List.setIfInBounds_toArray, List.set_cons_zero, List.set_cons_succ])
              (refine held_take (v := ?_) (d := some 5) 10 (by kernel_rfl) (by kernel_rfl) rfl ?_ ?_
               rotate_left
               · intro w hSw
                 conv in opOf _ _ => whnf
                 obtain ⟨hs0, hs1, hs2, hs3⟩ := hSw
                 go_simp
                 try (with_reducible rfl)
               try simp only [Act.put, List.setIfInBounds_toArray, List.set_cons_zero, List.set_cons_succ])
              refine held_done (by kernel_rfl) (fun hS => hR.out _ _ ?_)
              obtain ⟨z0, z1, z2⟩ := blk3 (a := .string N) (b := .int .u8 B) (c := .int .i64 H) (show Blk w3.drew w.heap.size 97 [.string ⟨#[]⟩, .int .u8 0, .int .i64 0] from hR3)
              go_wp2_with fail
              refine bodyPost_ret (v := .tuple #[.int .i64 ((k : Int) + 1), .agg #[.string N, .int .u8 B, .int .i64 H], .int .i64 2, .bool true]) (by simp [results, Tryd.results44, go_sem, z0, z1, z2]) rfl ⟨?_, hS.1⟩
              rw [hf.out, HH.out]
              simp only [isOp_yes k hlt, HO.out]
              rfl
          · have hthere : World.there w3.drew w.heap.size 0 3 := there3 (show Blk w3.drew w.heap.size 97 [.string ⟨#[]⟩, .int .u8 0, .int .i64 0] from hR3)
            refine held_start (ops' := find9) (l0 := #[false, false, false, false, false, false, false, false, false, false, false]) (S := FindS w w1.heap.size N B H) (by kernel_rfl) (by kernel_rfl) (by kernel_rfl) (by kernel_rfl) ⟨hB3.drew, y0, y1, y2⟩ (fun R hR => ?_)
            (refine held_take (v := ?_) (d := some 48) 0 (by kernel_rfl) (by kernel_rfl) rfl ?_ ?_
             rotate_left
             · intro w hSw
               conv in opOf _ _ => whnf
               obtain ⟨hs0, hs1, hs2, hs3⟩ := hSw
               go_simp
               try (with_reducible rfl)
             try simp only [Act.put, List.setIfInBounds_toArray, List.set_cons_zero, List.set_cons_succ])
            (refine held_take (v := ?_) (d := some 49) 1 (by kernel_rfl) (by kernel_rfl) rfl ?_ ?_
             rotate_left
             · intro w hSw
               conv in opOf _ _ => whnf
               obtain ⟨hs0, hs1, hs2, hs3⟩ := hSw
               go_simp
               try (with_reducible rfl)
             try simp only [Act.put, List.setIfInBounds_toArray, List.set_cons_zero, List.set_cons_succ])
            (refine held_take (v := ?_) (d := some 50) 2 (by kernel_rfl) (by kernel_rfl) rfl ?_ ?_
             rotate_left
             · intro w hSw
               conv in opOf _ _ => whnf
               obtain ⟨hs0, hs1, hs2, hs3⟩ := hSw
               go_simp
               try (with_reducible rfl)
             try simp only [Act.put, List.setIfInBounds_toArray, List.set_cons_zero, List.set_cons_succ])
            (refine held_take (v := ?_) (d := some 51) 3 (by kernel_rfl) (by kernel_rfl) rfl ?_ ?_
             rotate_left
             · intro w hSw
               conv in opOf _ _ => whnf
               obtain ⟨hs0, hs1, hs2, hs3⟩ := hSw
               go_simp
               try (with_reducible rfl)
             try simp only [Act.put, List.setIfInBounds_toArray, List.set_cons_zero, List.set_cons_succ])
            (refine held_take (v := ?_) (d := some 2) 7 (by kernel_rfl) (by kernel_rfl) rfl ?_ ?_
             rotate_left
             · intro w hSw
               conv in opOf _ _ => whnf
               obtain ⟨hs0, hs1, hs2, hs3⟩ := hSw
               go_simp
               try (with_reducible rfl)
             try simp only [Act.put, List.setIfInBounds_toArray, List.set_cons_zero, List.set_cons_succ])
            refine held_two 4 8 (by kernel_rfl) (by kernel_rfl) (by kernel_rfl) ?_ ?_
            · (refine held_run (v := ?_) (w' := ?_) (d := some 52) 4 (by kernel_rfl) (by kernel_rfl) rfl ?_ ?_
               rotate_left 2
               · rintro ⟨hs0, hs1, hs2, hs3⟩
                 conv in opOf _ _ => whnf
                 go_simp
                 first | done | (with_reducible rfl) | (constructor <;> with_reducible rfl)
               intro hS
               refine ⟨hS, ?_⟩
               try simp only [Act.put, List.setIfInBounds_toArray, List.set_cons_zero, List.set_cons_succ])
              (refine held_take (v := ?_) (d := some 53) 5 (by kernel_rfl) (by kernel_rfl) rfl ?_ ?_
               rotate_left
               · intro w hSw
                 conv in opOf _ _ => whnf
                 obtain ⟨hs0, hs1, hs2, hs3⟩ := hSw
                 go_simp
                 try simp only [hsub]
                 try (with_reducible rfl)
               try simp only [Act.put, List.setIfInBounds_toArray, List.set_cons_zero, List.set_cons_succ])
              (refine held_take (v := ?_) (d := some 54) 6 (by kernel_rfl) (by kernel_rfl) rfl ?_ ?_
               rotate_left
               · intro w hSw
                 conv in opOf _ _ => whnf
                 obtain ⟨hs0, hs1, hs2, hs3⟩ := hSw
                 go_simp
                 try simp only [hw1, hw2, hw4]
                 try (with_reducible rfl)
               try simp only [Act.put, List.setIfInBounds_toArray, List.set_cons_zero, List.set_cons_succ])
              (refine held_one 8 (by kernel_rfl) (by kernel_rfl) (held_store (d := none) 8 (by kernel_rfl) (by kernel_rfl) rfl 97 (.tmp 3) (.tmp 49) (by kernel_rfl) w.heap.size 0 #[.string N, .int .u8 B, .int .i64 H] (by kernel_rfl) (by kernel_rfl) (fun _ => hthere) (by kernel_rfl) (by simp [Value.oneCell']) (fun hS => ⟨keepS hS hXn, ?_⟩))
               try simp only [Act.put, List.setIfInBounds_toArray, List.set_cons_zero, List.set_cons_succ])
              (refine held_take (v := ?_) (d := some 4) 9 (by kernel_rfl) (by kernel_rfl) rfl ?_ ?_
               rotate_left
               · intro w hSw
                 conv in opOf _ _ => whnf
                 obtain ⟨hs0, hs1, hs2, hs3⟩ := hSw
                 go_simp
                 try (with_reducible rfl)
               try simp only [Act.put, List.setIfInBounds_toArray, List.set_cons_zero, List.set_cons_succ])
              (refine held_take (v := ?_) (d := some 5) 10 (by kernel_rfl) (by kernel_rfl) rfl ?_ ?_
               rotate_left
               · intro w hSw
                 conv in opOf _ _ => whnf
                 obtain ⟨hs0, hs1, hs2, hs3⟩ := hSw
                 go_simp
                 try (with_reducible rfl)
               try simp only [Act.put, List.setIfInBounds_toArray, List.set_cons_zero, List.set_cons_succ])
              refine held_done (by kernel_rfl) (fun hS => hR.out _ _ ?_)
              obtain ⟨z0, z1, z2⟩ := blk3 (a := .string N) (b := .int .u8 B) (c := .int .i64 H) (show Blk w3.drew w.heap.size 97 [.string ⟨#[]⟩, .int .u8 0, .int .i64 0] from hR3)
              go_wp2_with fail
              refine bodyPost_ret (v := .tuple #[.int .i64 ((k : Int) + 1), .agg #[.string N, .int .u8 B, .int .i64 H], .int .i64 4, .bool true]) (by simp [results, Tryd.results44, go_sem, z0, z1, z2]) rfl ⟨?_, hS.1⟩
              rw [hf.out, HH.out]
              simp only [isOp_yes k hlt, HO.out]
              rfl
            · (refine (held_store (d := none) 8 (by kernel_rfl) (by kernel_rfl) rfl 97 (.tmp 3) (.tmp 49) (by kernel_rfl) w.heap.size 0 #[.string N, .int .u8 B, .int .i64 H] (by kernel_rfl) (by kernel_rfl) (fun _ => hthere) (by kernel_rfl) (by simp [Value.oneCell']) (fun hS => ⟨keepS hS hXn, ?_⟩))
               try simp only [Act.put, List.setIfInBounds_toArray, List.set_cons_zero, List.set_cons_succ])
              (refine held_take (v := ?_) (d := some 52) 4 (by kernel_rfl) (by kernel_rfl) rfl ?_ ?_
               rotate_left
               · intro w hSw
                 conv in opOf _ _ => whnf
                 obtain ⟨hs0, hs1, hs2, hs3⟩ := hSw
                 go_simp
                 try (with_reducible rfl)
               try simp only [Act.put, List.setIfInBounds_toArray, List.set_cons_zero, List.set_cons_succ])
              (refine held_take (v := ?_) (d := some 53) 5 (by kernel_rfl) (by kernel_rfl) rfl ?_ ?_
               rotate_left
               · intro w hSw
                 conv in opOf _ _ => whnf
                 obtain ⟨hs0, hs1, hs2, hs3⟩ := hSw
                 go_simp
                 try simp only [hsub]
                 try (with_reducible rfl)
               try simp only [Act.put, List.setIfInBounds_toArray, List.set_cons_zero, List.set_cons_succ])
              (refine held_take (v := ?_) (d := some 54) 6 (by kernel_rfl) (by kernel_rfl) rfl ?_ ?_
               rotate_left
               · intro w hSw
                 conv in opOf _ _ => whnf
                 obtain ⟨hs0, hs1, hs2, hs3⟩ := hSw
                 go_simp
                 try simp only [hw1, hw2, hw4]
                 try (with_reducible rfl)
               try simp only [Act.put, List.setIfInBounds_toArray, List.set_cons_zero, List.set_cons_succ])
              (refine held_take (v := ?_) (d := some 4) 9 (by kernel_rfl) (by kernel_rfl) rfl ?_ ?_
               rotate_left
               · intro w hSw
                 conv in opOf _ _ => whnf
                 obtain ⟨hs0, hs1, hs2, hs3⟩ := hSw
                 go_simp
                 try (with_reducible rfl)
               try simp only [Act.put, List.setIfInBounds_toArray, List.set_cons_zero, List.set_cons_succ])
              (refine held_take (v := ?_) (d := some 5) 10 (by kernel_rfl) (by kernel_rfl) rfl ?_ ?_
               rotate_left
               · intro w hSw
                 conv in opOf _ _ => whnf
                 obtain ⟨hs0, hs1, hs2, hs3⟩ := hSw
                 go_simp
                 try (with_reducible rfl)
               try simp only [Act.put, List.setIfInBounds_toArray, List.set_cons_zero, List.set_cons_succ])
              refine held_done (by kernel_rfl) (fun hS => hR.out _ _ ?_)
              obtain ⟨z0, z1, z2⟩ := blk3 (a := .string N) (b := .int .u8 B) (c := .int .i64 H) (show Blk w3.drew w.heap.size 97 [.string ⟨#[]⟩, .int .u8 0, .int .i64 0] from hR3)
              go_wp2_with fail
              refine bodyPost_ret (v := .tuple #[.int .i64 ((k : Int) + 1), .agg #[.string N, .int .u8 B, .int .i64 H], .int .i64 4, .bool true]) (by simp [results, Tryd.results44, go_sem, z0, z1, z2]) rfl ⟨?_, hS.1⟩
              rw [hf.out, HH.out]
              simp only [isOp_yes k hlt, HO.out]
              rfl
        · have HM := Lib.hid (hfm (by simpa using hc))
          clear hfm hfh
          by_cases hc0 : B ≤ c
          · have hc3 : ¬ c - B < 3 := fun h => hc ⟨hc0, h⟩
            have hsub : IntKind.u8.wrap (c - B) = c - B := by simp [IntKind.wrap, IntKind.bits, IntKind.signed]; omega
            clear hc
            go_wp2_with (first
              | (go_at_call 54; refine (Hat.out _ hTr).mono ?_; rintro e w1 ⟨rfl, hb1⟩; have hT1 := hTr.grow hb1; have hz1 := hb1.size; have hR1 := hRb.below hb1 (by omega))
              | (go_at_call 71; refine (Hsp.out _ (hT1.alloc _)).mono ?_; rintro e w2 ⟨rfl, hb2⟩; have hT2 := (hT1.alloc _).grow hb2; have hz2 : w1.heap.size < w2.heap.size := (by have := hb2.size; simp at this; omega); have hR2 := (hR1.alloc _).below hb2 (by simp; omega); have hX2 := (Blk.new w1 97 [.string N, .int .u8 B, .int .i64 H]).below hb2 (by simp); have x0 := hX2.cell 0; have x1 := hX2.cell 1; have x2 := hX2.cell 2; simp only [List.getElem?_cons_zero, List.getElem?_cons_succ] at x0 x1 x2; have hB2 : Below w.heap.size w w2 := ((hBr.trans (hb1.mono (by omega))).alloc (by omega) _).trans (hb2.mono (by simp; omega)); have hXn : w1.heap.size ≠ w.heap.size := (by omega))
              | (go_at_call 71; refine (Hsp.out _ hT2).mono ?_; rintro e w3 ⟨rfl, hb3⟩; have hT3 := hT2.grow hb3; have hz3 := hb3.size; have hR3 := hR2.below hb3 (by omega); have hX3 := hX2.below hb3 hz2; have y0 := hX3.cell 0; have y1 := hX3.cell 1; have y2 := hX3.cell 2; simp only [List.getElem?_cons_zero, List.getElem?_cons_succ] at y0 y1 y2; have hB3 : Below w.heap.size w w3 := hB2.trans (hb3.mono (by omega))))
            go_roundw
            case rel => exact ⟨k + 1, by go_num, by omega, Lib.hid (by rw [hf.out, HM.out]), (((hbr.trans (hb1.mono (by omega))).alloc (by omega) _).trans (hb2.mono (by simp; omega))).trans (hb3.mono (by omega))⟩
            case measure => simp [intOf]; omega
          · clear hc
            go_wp2_with (first
              | (go_at_call 54; refine (Hat.out _ hTr).mono ?_; rintro e w1 ⟨rfl, hb1⟩; have hT1 := hTr.grow hb1; have hz1 := hb1.size; have hR1 := hRb.below hb1 (by omega))
              | (go_at_call 71; refine (Hsp.out _ (hT1.alloc _)).mono ?_; rintro e w2 ⟨rfl, hb2⟩; have hT2 := (hT1.alloc _).grow hb2; have hz2 : w1.heap.size < w2.heap.size := (by have := hb2.size; simp at this; omega); have hR2 := (hR1.alloc _).below hb2 (by simp; omega); have hX2 := (Blk.new w1 97 [.string N, .int .u8 B, .int .i64 H]).below hb2 (by simp); have x0 := hX2.cell 0; have x1 := hX2.cell 1; have x2 := hX2.cell 2; simp only [List.getElem?_cons_zero, List.getElem?_cons_succ] at x0 x1 x2; have hB2 : Below w.heap.size w w2 := ((hBr.trans (hb1.mono (by omega))).alloc (by omega) _).trans (hb2.mono (by simp; omega)); have hXn : w1.heap.size ≠ w.heap.size := (by omega))
              | (go_at_call 71; refine (Hsp.out _ hT2).mono ?_; rintro e w3 ⟨rfl, hb3⟩; have hT3 := hT2.grow hb3; have hz3 := hb3.size; have hR3 := hR2.below hb3 (by omega); have hX3 := hX2.below hb3 hz2; have y0 := hX3.cell 0; have y1 := hX3.cell 1; have y2 := hX3.cell 2; simp only [List.getElem?_cons_zero, List.getElem?_cons_succ] at y0 y1 y2; have hB3 : Below w.heap.size w w3 := hB2.trans (hb3.mono (by omega))))
            go_roundw
            case rel => exact ⟨k + 1, by go_num, by omega, Lib.hid (by rw [hf.out, HM.out]), (((hbr.trans (hb1.mono (by omega))).alloc (by omega) _).trans (hb2.mono (by simp; omega))).trans (hb3.mono (by omega))⟩
            case measure => simp [intOf]; omega
    · obtain rfl : 43 = k := by omega
      have Hat := Lib.hid (fun w => at_no 44 w (by omega))
      have hf2 := hf.out
      have HF := Lib.hid (hf2.trans (show findD (43 - 43) 43 c = (0, 0) by rw [Nat.sub_self]; rfl))
      clear hf hf2 hT
      go_wp2_with (first
        | (go_at_call 54; refine (Hat.out _).mono ?_; rintro e w1 ⟨rfl, hb1⟩; have hz1 := hb1.size; have hR1 := hRb.below hb1 (by omega); have hB1 : Below w.heap.size w w1 := hBr.trans (hb1.mono (by omega)); have hR2 := hR1.alloc (.cells #[.string ⟨#[]⟩, .int .u8 0, .int .i64 0] 97); have hth2 := there3 hR2; obtain ⟨z0, z1, z2⟩ := blk3 (a := .string ⟨#[]⟩) (b := .int .u8 0) (c := .int .i64 0) hR2)
        | ((with_reducible show wpList _ _ _ _ _ _); refine wpList_store_mid (op := ⟨none, .store 97 (.tmp 3) (.tmp 19), _, _, _, _⟩) rfl 97 (.tmp 3) (.tmp 19) rfl w.heap.size 0 #[.string ⟨#[]⟩, .int .u8 0, .int .i64 0] rfl rfl hth2 (by kernel_rfl) (by simp [Value.oneCell']) ?_))
      refine bodyPost_ret (v := .tuple #[.int .i64 0, .agg #[.string ⟨#[]⟩, .int .u8 0, .int .i64 0], .int .i64 0, .bool false]) (by simp [results, Tryd.results44, go_sem, z0, z1, z2]) rfl ⟨?_, ?_⟩
      · rw [HF.out]
        simp only [opVal, opName, opByte, opShape, opAt_no (show ¬ ((1 : Int) ≤ 0 ∧ (0 : Int) ≤ 43) by omega), isOp_no (show ¬ ((1 : Int) ≤ 0 ∧ (0 : Int) ≤ 43) by omega)]
      · exact (keepS (N := ⟨#[]⟩) (B := 0) (H := 0) (X := w1.heap.size) ⟨hB1.alloc (by omega) _, (Blk.new w1 _ _).cell 0, (Blk.new w1 _ _).cell 1, (Blk.new w1 _ _).cell 2⟩ (by omega)).1
end Go.Proofs.YthcjnkakfpmpbaaDoor
