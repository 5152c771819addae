/- The walk of the reference's Encode. Conditions: none. -/
import Derived.Test.YtfplkmldleigpaaDoorE1
import Derived.Test.YtfplkmldleigpaaDoorR2
import Derived.Test.YtfplkmldleigpaaDoorP9
namespace Go.Proofs.YtfplkmldleigpaaDoor
open Go.RowKit
set_option linter.unusedVariables false
set_option linter.unusedSimpArgs false

theorem refOps_E (w : World) : Calls Tryd.prog 29 #[] w fun e w' => ∃ V, e = .returned V ∧ (V = .slice (some ⟨w.heap.size, 0, none⟩) 43 43 ∧ TabIs w.heap.size w' ∧ Below w.heap.size w w') :=
  (refOps_gives w).mono fun e w' h => ⟨_, h.1, rfl, h.2⟩
noncomputable def refEnc4 : Array Oper := regOf Tryd.f35.body 4

set_option maxHeartbeats 1000000 in
theorem reg4 (k B : Nat) (y0 y2 y3 y4 y5 y6 y7 y8 y9 y10 y11 y12 : Value) (w : World) (Q : Exit → Act → World → Prop) (hk : k < 43) (hB : B < w.heap.size) (hc : w.cell? ⟨B, 0, none⟩ = some (.int .i64 ((k : Int) + 1)))
    (h : ∀ g x13 x14 x15 x16 x17 x18 w', Below w.heap.size w w' → w.heap.size ≤ g → g < w'.heap.size → w'.cell? ⟨g, 1, none⟩ = some (.int .u8 (opByte ((k : Int) + 1))) → w'.cell? ⟨g, 2, none⟩ = some (.int .i64 (opShape ((k : Int) + 1))) → Q .normal ⟨#[y0, (.pointer (some ⟨B, 0, none⟩)), y2, y3, y4, (.pointer (some ⟨g, 0, none⟩)), y6, y7, y8, y9, y10, y11, y12, x13, x14, x15, x16, x17, x18, undef, undef, undef, undef, undef, undef, undef, undef, undef, undef, undef, undef, undef, undef, undef, undef, undef, undef, undef, undef, undef, undef, undef, undef, undef, undef, undef, undef, undef, undef, undef, undef, undef, undef, undef, undef, undef, undef, undef, undef, undef, undef, undef, undef, undef, undef, undef, undef, undef, undef, undef, undef, undef, undef, undef, undef, undef, undef, undef, undef, undef, undef, undef, undef, undef, undef, undef, undef, undef, undef, undef, undef, undef, undef, undef, undef, undef, undef, undef, undef, undef, undef, undef, undef, undef, undef, undef, undef, undef, undef, undef, undef, undef, undef, undef, undef, undef, undef, undef, undef, undef, undef, undef, undef, undef, undef, undef, undef, undef, undef, undef, undef, undef, undef, undef, undef, undef, undef, undef, undef, undef, undef], []⟩ w') :
    (Code.region 4 refEnc4 true).wp Tryd.prog Q ⟨#[y0, (.pointer (some ⟨B, 0, none⟩)), y2, y3, y4, y5, y6, y7, y8, y9, y10, y11, y12, undef, undef, undef, undef, undef, undef, undef, undef, undef, undef, undef, undef, undef, undef, undef, undef, undef, undef, undef, undef, undef, undef, undef, undef, undef, undef, undef, undef, undef, undef, undef, undef, undef, undef, undef, undef, undef, undef, undef, undef, undef, undef, undef, undef, undef, undef, undef, undef, undef, undef, undef, undef, undef, undef, undef, undef, undef, undef, undef, undef, undef, undef, undef, undef, undef, undef, undef, undef, undef, undef, undef, undef, undef, undef, undef, undef, undef, undef, undef, undef, undef, undef, undef, undef, undef, undef, undef, undef, undef, undef, undef, undef, undef, undef, undef, undef, undef, undef, undef, undef, undef, undef, undef, undef, undef, undef, undef, undef, undef, undef, undef, undef, undef, undef, undef, undef, undef, undef, undef, undef, undef, undef, undef, undef, undef, undef, undef, undef], []⟩ w := by
  have hI : (k : Int) < 43 := by omega
  have hwr : IntKind.i64.wrap (k : Int) = k := by simp [IntKind.wrap, IntKind.bits, IntKind.signed]; omega
  refine held_start (ops' := refEnc4) (l0 := #[false, false, false, false, false, false, false, false]) (S := (fun w' => Below w.heap.size w w' ∧ w'.cell? ⟨B, 0, none⟩ = some (.int .i64 ((k : Int) + 1)))) rfl (by kernel_rfl) (by kernel_rfl) (by kernel_rfl) ⟨(Below.refl _ _).drew, hc⟩ (fun R hR => ?_)
  (refine held_take (v := ?_) (d := some 14) 1 (by kernel_rfl) (by kernel_rfl) rfl ?_ ?_
   rotate_left
   · intro w hSw
     conv in opOf _ _ => whnf
     (try dsimp only at hSw)
     go_simp
     try (with_reducible rfl)
   try simp only [Act.put, List.setIfInBounds_toArray, List.set_cons_zero, List.set_cons_succ])
  (refine held_take (v := ?_) (d := some 15) 2 (by kernel_rfl) (by kernel_rfl) rfl ?_ ?_
   rotate_left
   · intro w hSw
     conv in opOf _ _ => whnf
     (try dsimp only at hSw)
     go_simp
     try (with_reducible rfl)
   try simp only [Act.put, List.setIfInBounds_toArray, List.set_cons_zero, List.set_cons_succ])
  (refine held_take (v := ?_) (d := some 16) 3 (by kernel_rfl) (by kernel_rfl) rfl ?_ ?_
   rotate_left
   · intro w hSw
     conv in opOf _ _ => whnf
     (try dsimp only at hSw)
     go_simp
     try simp only [hwr]
     try (with_reducible rfl)
   try simp only [Act.put, List.setIfInBounds_toArray, List.set_cons_zero, List.set_cons_succ])
  refine held_two 0 6 (by kernel_rfl) (by kernel_rfl) (by kernel_rfl) ?_ ?_
  · (refine held_callE (d := some 13) 0 (by kernel_rfl) (by kernel_rfl) rfl (fun hS => refOps_E _) (by kernel_rfl) ?_
     rintro V w4 hS ⟨rfl, hT, hbb⟩
     have hT : TabIs w.heap.size w4 := hT
     obtain ⟨c0, c1, c2⟩ := hT.cells k hk
     have hTl := hT.lt
     refine ⟨⟨hS.1.trans (hbb.mono hS.1.size), (hbb.cell (by have := hS.1.size; show B < _; omega)).trans hS.2⟩, ?_⟩
     try simp only [Act.put, List.setIfInBounds_toArray, List.set_cons_zero, List.set_cons_succ])
    (refine held_take (v := ?_) (d := some 17) 4 (by kernel_rfl) (by kernel_rfl) rfl ?_ ?_
     rotate_left
     · intro w hSw
       conv in opOf _ _ => whnf
       (try dsimp only at hSw)
       go_simp
       try (with_reducible rfl)
     try simp only [Act.put, List.setIfInBounds_toArray, List.set_cons_zero, List.set_cons_succ])
    refine held_two 5 6 (by kernel_rfl) (by kernel_rfl) (by kernel_rfl) ?_ ?_
    · (refine held_run (v := ?_) (w' := ?_) (d := some 18) 5 (by kernel_rfl) (by kernel_rfl) rfl ?_ ?_
       rotate_left 2
       · intro hSw
         conv in opOf _ _ => whnf
         go_simp
         first | done | (with_reducible rfl) | (constructor <;> with_reducible rfl)
       intro hS
       refine ⟨hS, ?_⟩
       try simp only [Act.put, List.setIfInBounds_toArray, List.set_cons_zero, List.set_cons_succ])
      (refine held_one 6 (by kernel_rfl) (by kernel_rfl) (held_run (v := ?_) (w' := ?_) (d := some 5) 6 (by kernel_rfl) (by kernel_rfl) rfl ?_ ?_)
       rotate_left 2
       · intro hSw
         conv in opOf _ _ => whnf
         go_simp
         first | done | (with_reducible rfl) | (constructor <;> with_reducible rfl)
       intro hS
       refine ⟨⟨hS.1.alloc hS.1.size _, (World.cell?_alloc_lt _ _ ⟨B, 0, none⟩ (by have := hS.1.size; show B < _; omega)).trans hS.2⟩, ?_⟩
       try simp only [Act.put, List.setIfInBounds_toArray, List.set_cons_zero, List.set_cons_succ])
      have hBk : Blk _ w4.heap.size 46 [.string ⟨#[]⟩, .int .u8 0, .int .i64 0] := Blk.new _ _ _
      have hthere : World.there _ w4.heap.size 0 3 := fun t ht => ⟨by rw [Nat.zero_add, hBk.cell, List.getElem?_eq_getElem (by simpa using ht)]; rfl, hBk.free _⟩
      have hBk3 := ((hBk.set_ 0 (.string ⟨(opName ((k : Int) + 1)).toArray⟩)).set_ 1 (.int .u8 (opByte ((k : Int) + 1)))).set_ 2 (.int .i64 (opShape ((k : Int) + 1)))
      (refine held_one 7 (by kernel_rfl) (by kernel_rfl) (held_store (d := none) 7 (by kernel_rfl) (by kernel_rfl) rfl 46 (.tmp 5) (.tmp 18) (by kernel_rfl) w4.heap.size 0 #[.string ⟨(opName ((k : Int) + 1)).toArray⟩, .int .u8 (opByte ((k : Int) + 1)), .int .i64 (opShape ((k : Int) + 1))] (by kernel_rfl) (by kernel_rfl) (fun _ => hthere) (by kernel_rfl) (by simp [Value.oneCell']) (fun hS => ⟨⟨((hS.1.setCell (p := ⟨w4.heap.size, 0, none⟩) (by show w.heap.size ≤ w4.heap.size; omega) _).setCell (p := ⟨w4.heap.size, 1, none⟩) (by show w.heap.size ≤ w4.heap.size; omega) _).setCell (p := ⟨w4.heap.size, 2, none⟩) (by show w.heap.size ≤ w4.heap.size; omega) _, ?_⟩, ?_⟩))
       · refine Eq.trans ?_ hS.2
         exact World.cell?_setCells_out w4.heap.size _ 0 _ ⟨B, 0, none⟩ (fun h _ => absurd h (by show B ≠ w4.heap.size; omega))
       try simp only [Act.put, List.setIfInBounds_toArray, List.set_cons_zero, List.set_cons_succ])
      refine held_done (by kernel_rfl) (fun hS => hR.out _ _ ?_)
      exact h w4.heap.size _ _ _ _ _ _ _ hS.1 (by omega) hBk3.lt (hBk3.cell 1) (hBk3.cell 2)
    · (refine held_run (v := ?_) (w' := ?_) (d := some 5) 6 (by kernel_rfl) (by kernel_rfl) rfl ?_ ?_
       rotate_left 2
       · intro hSw
         conv in opOf _ _ => whnf
         go_simp
         first | done | (with_reducible rfl) | (constructor <;> with_reducible rfl)
       intro hS
       refine ⟨⟨hS.1.alloc hS.1.size _, (World.cell?_alloc_lt _ _ ⟨B, 0, none⟩ (by have := hS.1.size; show B < _; omega)).trans hS.2⟩, ?_⟩
       try simp only [Act.put, List.setIfInBounds_toArray, List.set_cons_zero, List.set_cons_succ])
      have q0 := (World.cell?_alloc_lt w4 (.cells #[.string ⟨#[]⟩, .int .u8 0, .int .i64 0] 46) ⟨w.heap.size, k * 3, none⟩ hTl).trans c0
      have q1 := (World.cell?_alloc_lt w4 (.cells #[.string ⟨#[]⟩, .int .u8 0, .int .i64 0] 46) ⟨w.heap.size, k * 3 + 1, none⟩ hTl).trans c1
      have q2 := (World.cell?_alloc_lt w4 (.cells #[.string ⟨#[]⟩, .int .u8 0, .int .i64 0] 46) ⟨w.heap.size, k * 3 + 2, none⟩ hTl).trans c2
      (refine held_one 5 (by kernel_rfl) (by kernel_rfl) (held_run (v := ?_) (w' := ?_) (d := some 18) 5 (by kernel_rfl) (by kernel_rfl) rfl ?_ ?_)
       rotate_left 2
       · intro hSw
         conv in opOf _ _ => whnf
         go_simp
         first | done | (with_reducible rfl) | (constructor <;> with_reducible rfl)
       intro hS
       refine ⟨hS, ?_⟩
       try simp only [Act.put, List.setIfInBounds_toArray, List.set_cons_zero, List.set_cons_succ])
      have hBk : Blk _ w4.heap.size 46 [.string ⟨#[]⟩, .int .u8 0, .int .i64 0] := Blk.new _ _ _
      have hthere : World.there _ w4.heap.size 0 3 := fun t ht => ⟨by rw [Nat.zero_add, hBk.cell, List.getElem?_eq_getElem (by simpa using ht)]; rfl, hBk.free _⟩
      have hBk3 := ((hBk.set_ 0 (.string ⟨(opName ((k : Int) + 1)).toArray⟩)).set_ 1 (.int .u8 (opByte ((k : Int) + 1)))).set_ 2 (.int .i64 (opShape ((k : Int) + 1)))
      (refine held_one 7 (by kernel_rfl) (by kernel_rfl) (held_store (d := none) 7 (by kernel_rfl) (by kernel_rfl) rfl 46 (.tmp 5) (.tmp 18) (by kernel_rfl) w4.heap.size 0 #[.string ⟨(opName ((k : Int) + 1)).toArray⟩, .int .u8 (opByte ((k : Int) + 1)), .int .i64 (opShape ((k : Int) + 1))] (by kernel_rfl) (by kernel_rfl) (fun _ => hthere) (by kernel_rfl) (by simp [Value.oneCell']) (fun hS => ⟨⟨((hS.1.setCell (p := ⟨w4.heap.size, 0, none⟩) (by show w.heap.size ≤ w4.heap.size; omega) _).setCell (p := ⟨w4.heap.size, 1, none⟩) (by show w.heap.size ≤ w4.heap.size; omega) _).setCell (p := ⟨w4.heap.size, 2, none⟩) (by show w.heap.size ≤ w4.heap.size; omega) _, ?_⟩, ?_⟩))
       · refine Eq.trans ?_ hS.2
         exact World.cell?_setCells_out w4.heap.size _ 0 _ ⟨B, 0, none⟩ (fun h _ => absurd h (by show B ≠ w4.heap.size; omega))
       try simp only [Act.put, List.setIfInBounds_toArray, List.set_cons_zero, List.set_cons_succ])
      refine held_done (by kernel_rfl) (fun hS => hR.out _ _ ?_)
      exact h w4.heap.size _ _ _ _ _ _ _ hS.1 (by omega) hBk3.lt (hBk3.cell 1) (hBk3.cell 2)
  · (refine held_run (v := ?_) (w' := ?_) (d := some 5) 6 (by kernel_rfl) (by kernel_rfl) rfl ?_ ?_
     rotate_left 2
     · intro hSw
       conv in opOf _ _ => whnf
       go_simp
       first | done | (with_reducible rfl) | (constructor <;> with_reducible rfl)
     intro hS
     refine ⟨⟨hS.1.alloc hS.1.size _, (World.cell?_alloc_lt _ _ ⟨B, 0, none⟩ (by have := hS.1.size; show B < _; omega)).trans hS.2⟩, ?_⟩
     try simp only [Act.put, List.setIfInBounds_toArray, List.set_cons_zero, List.set_cons_succ])
    (refine held_one 0 (by kernel_rfl) (by kernel_rfl) (held_callE (d := some 13) 0 (by kernel_rfl) (by kernel_rfl) rfl (fun hS => refOps_E _) (by kernel_rfl) ?_)
     rintro V w4 hS ⟨rfl, hT, hbb⟩
     have hT : TabIs (w.heap.size + 1) w4 := by simpa using hT
     have hsz : (w.drew.alloc (.cells #[.string ⟨#[]⟩, .int .u8 0, .int .i64 0] 46)).heap.size = w.heap.size + 1 := by simp
     obtain ⟨c0, c1, c2⟩ := hT.cells k hk
     have hTl := hT.lt
     have hBo : Blk w4 w.heap.size 46 [.string ⟨#[]⟩, .int .u8 0, .int .i64 0] := (Blk.new w.drew _ _).below hbb (by show w.heap.size < (w.alloc _).heap.size; simp)
     refine ⟨⟨hS.1.trans (hbb.mono hS.1.size), (hbb.cell (by have := hS.1.size; show B < _; omega)).trans hS.2⟩, ?_⟩
     try simp only [Act.put, List.setIfInBounds_toArray, List.set_cons_zero, List.set_cons_succ])
    (refine held_take (v := ?_) (d := some 17) 4 (by kernel_rfl) (by kernel_rfl) rfl ?_ ?_
     rotate_left
     · intro w hSw
       conv in opOf _ _ => whnf
       (try dsimp only at hSw)
       go_simp
       try (with_reducible rfl)
     try simp only [Act.put, List.setIfInBounds_toArray, List.set_cons_zero, List.set_cons_succ])
    (refine held_one 5 (by kernel_rfl) (by kernel_rfl) (held_run (v := ?_) (w' := ?_) (d := some 18) 5 (by kernel_rfl) (by kernel_rfl) rfl ?_ ?_)
     rotate_left 2
     · intro hSw
       conv in opOf _ _ => whnf
       go_simp
       first | done | (with_reducible rfl) | (constructor <;> with_reducible rfl)
     intro hS
     refine ⟨hS, ?_⟩
     try simp only [Act.put, List.setIfInBounds_toArray, List.set_cons_zero, List.set_cons_succ])
    have hBk : Blk w4 w.heap.size 46 [.string ⟨#[]⟩, .int .u8 0, .int .i64 0] := hBo
    have hthere : World.there w4 w.heap.size 0 3 := fun t ht => ⟨by rw [Nat.zero_add, hBk.cell, List.getElem?_eq_getElem (by simpa using ht)]; rfl, hBk.free _⟩
    have hBk3 := ((hBk.set_ 0 (.string ⟨(opName ((k : Int) + 1)).toArray⟩)).set_ 1 (.int .u8 (opByte ((k : Int) + 1)))).set_ 2 (.int .i64 (opShape ((k : Int) + 1)))
    (refine held_one 7 (by kernel_rfl) (by kernel_rfl) (held_store (d := none) 7 (by kernel_rfl) (by kernel_rfl) rfl 46 (.tmp 5) (.tmp 18) (by kernel_rfl) w.heap.size 0 #[.string ⟨(opName ((k : Int) + 1)).toArray⟩, .int .u8 (opByte ((k : Int) + 1)), .int .i64 (opShape ((k : Int) + 1))] (by kernel_rfl) (by kernel_rfl) (fun _ => hthere) (by kernel_rfl) (by simp [Value.oneCell']) (fun hS => ⟨⟨((hS.1.setCell (p := ⟨w.heap.size, 0, none⟩) (by show w.heap.size ≤ w.heap.size; omega) _).setCell (p := ⟨w.heap.size, 1, none⟩) (by show w.heap.size ≤ w.heap.size; omega) _).setCell (p := ⟨w.heap.size, 2, none⟩) (by show w.heap.size ≤ w.heap.size; omega) _, ?_⟩, ?_⟩))
     · refine Eq.trans ?_ hS.2
       exact World.cell?_setCells_out w.heap.size _ 0 _ ⟨B, 0, none⟩ (fun h _ => absurd h (by show B ≠ w.heap.size; omega))
     try simp only [Act.put, List.setIfInBounds_toArray, List.set_cons_zero, List.set_cons_succ])
    refine held_done (by kernel_rfl) (fun hS => hR.out _ _ ?_)
    exact h w.heap.size _ _ _ _ _ _ _ hS.1 (by omega) hBk3.lt (hBk3.cell 1) (hBk3.cell 2)

theorem keepI {W4 w1 w2 : World} {N B : Nat} {c1 c3 c4 : Option Value} (hS : Below N W4 w1 ∧ w1.cell? ⟨B, 1, none⟩ = c1 ∧ w1.cell? ⟨B, 3, none⟩ = c3 ∧ w1.cell? ⟨B, 4, none⟩ = c4) (hB : B < N) (hb : Below N w1 w2) :
    Below N W4 w2 ∧ w2.cell? ⟨B, 1, none⟩ = c1 ∧ w2.cell? ⟨B, 3, none⟩ = c3 ∧ w2.cell? ⟨B, 4, none⟩ = c4 :=
  ⟨hS.1.trans hb, (hb.cell hB).trans hS.2.1, (hb.cell hB).trans hS.2.2.1, (hb.cell hB).trans hS.2.2.2⟩
theorem refPut_E (A : Option Addr) (n c : Nat) (l : List UInt8) (x width : Int) (w : World) (hs : Sl w w.heap.size 1 A n (bs l)) (hn : n + 8 ≤ 140737488355328) (h0 : 0 ≤ x) (h1 : x < 4294967296) :
    Calls Tryd.prog 51 #[.slice A n c, .int .u32 x, .int .i64 width] w fun e w' => ∃ V, e = .returned V ∧ (∃ A7 n7 c7, V = .slice A7 n7 c7 ∧ n7 ≤ c7 ∧ Sl w' w'.heap.size 1 A7 n7 (bs (putL l x width)) ∧ Below w.heap.size w w') := by
  refine (refPut_any A n c l x width w hs hn h0 h1).mono ?_
  intro e w' h
  obtain ⟨A7, n7, c7, rfl, h1, h2, h3⟩ := h.sl
  exact ⟨_, rfl, A7, n7, c7, rfl, h1, h2, h3⟩
noncomputable def refEnc22 : Array Oper := regOf Tryd.f35.body 22
noncomputable def refEnc26 : Array Oper := regOf Tryd.f35.body 26
noncomputable def refEnc28 : Array Oper := regOf Tryd.f35.body 28
noncomputable def refEnc32 : Array Oper := regOf Tryd.f35.body 32

set_option maxHeartbeats 1000000 in
theorem renc_1_0 (k : Nat) (a b n T : Int) (w : World) (hk : k < 43) (hT : opByte ((k : Int) + 1) = T) (hT0 : 0 ≤ T) (hT1 : T ≤ 100) (hSh : opShape ((k : Int) + 1) = 1) (ha0 : 0 ≤ a) (ha1 : a < 8) (hb0 : 0 ≤ b) (hb1 : b < 8) (hn : -2147483648 ≤ n ∧ n ≤ 2147483647) 
    (Hch : Hid (∀ w, Calls Tryd.prog 24 #[.agg #[.int .i64 ((k : Int) + 1), .int .i64 a, .int .i64 b, .int .i32 n, .int .i64 0]] w fun e w' => e = .returned (.int .i64 0) ∧ Below w.heap.size w w')) :
    Calls Tryd.prog 35 #[.agg #[.int .i64 ((k : Int) + 1), .int .i64 a, .int .i64 b, .int .i32 n, .int .i64 0]] w (GivesE w (lowB (T + addF 0) :: ([] ++ le (n % 4294967296) (0 : Int).toNat))) := by
  obtain ⟨i0, hi0, hk0, hk1, hk2⟩ := info_parts u8_info
  obtain ⟨hn0, hn1⟩ := hn
  skip
  have HT := Lib.hid hT
  have HSh := Lib.hid hSh
  clear hT hSh
  go_enter Tryd.func35, Tryd.ntmps35
  go_wp2_with (go_at_call 24; refine (Hch.out _).mono ?_; rintro e w2 ⟨rfl, hb2⟩; have hz2 : w.heap.size < w2.heap.size := (by have := hb2.size; simp at this; omega); obtain ⟨hc2, _⟩ := bcell hb2; have p0 : w2.cell? ⟨w.heap.size, 0, none⟩ = some (.int .i64 ((k : Int) + 1)) := (by rw [hc2 _ _ (by simp)]; exact (Blk.new w _ _).cell 0); have p1 : w2.cell? ⟨w.heap.size, 1, none⟩ = some (.int .i64 a) := (by rw [hc2 _ _ (by simp)]; exact (Blk.new w _ _).cell 1); have p2 : w2.cell? ⟨w.heap.size, 2, none⟩ = some (.int .i64 b) := (by rw [hc2 _ _ (by simp)]; exact (Blk.new w _ _).cell 2); have p3 : w2.cell? ⟨w.heap.size, 3, none⟩ = some (.int .i32 n) := (by rw [hc2 _ _ (by simp)]; exact (Blk.new w _ _).cell 3); have p4 : w2.cell? ⟨w.heap.size, 4, none⟩ = some (.int .i64 0) := (by rw [hc2 _ _ (by simp)]; exact (Blk.new w _ _).cell 4))
  refine wp_region_swap (ops' := refEnc4) (by kernel_rfl) ?_
  refine reg4 k w.heap.size _ _ _ _ _ _ _ _ _ _ _ _ w2 _ hk hz2 p0 ?_
  intro g x13 x14 x15 x16 x17 x18 w3 hb3 hg0 hg1 cB cS
  rw [HT.out] at cB
  rw [HSh.out] at cS
  have hz3' := hb3.size
  have hz3 : w.heap.size < w3.heap.size := by omega
  obtain ⟨hc3, _⟩ := bcell hb3
  have q1 := (hc3 _ _ hz2).trans p1
  have q2 := (hc3 _ _ hz2).trans p2
  have q3 := (hc3 _ _ hz2).trans p3
  have q4 := (hc3 _ _ hz2).trans p4
  have hd1 := (World.cell?_alloc_lt w3 (.cells #[.int .u8 (T)] 5) ⟨w.heap.size, 1, none⟩ hz3).trans q1
  have hd3 := (World.cell?_alloc_lt w3 (.cells #[.int .u8 (T)] 5) ⟨w.heap.size, 3, none⟩ hz3).trans q3
  have hd4 := (World.cell?_alloc_lt w3 (.cells #[.int .u8 (T)] 5) ⟨w.heap.size, 4, none⟩ hz3).trans q4
  have hB3 : Below w.heap.size w w3 := (((Below.refl w.heap.size w).alloc (Nat.le_refl _) _).trans (hb2.mono (by simp))).trans (hb3.mono (by omega))
  go_wp2_with fail
  refine bodyPost_ret (v := .tuple #[.slice (some ⟨w3.heap.size, 0, none⟩) 1 1, .int .i64 0]) (by simp [results, Tryd.results35, go_sem]) rfl ⟨_, 1, 1, rfl, Nat.le_refl _, ?_, hB3.alloc (by omega) _⟩
  have := Sl.of_own (own_new w3 5 1 1 [.int .u8 (T)] rfl (by unfold maxLen; omega))
  rw [show bs (lowB (T + addF 0) :: le (n % 4294967296) (Int.toNat 0)) = [.int .u8 (T)] from by simp only [le, Int.toNat_zero]; rw [bs_lowB]; simp only [List.cons.injEq, Value.int.injEq, and_true, true_and]; rw [show addF 0 = 0 from rfl]; omega]
  exact this

set_option maxHeartbeats 1000000 in
theorem renc_2_0 (k : Nat) (a b n T : Int) (w : World) (hk : k < 43) (hT : opByte ((k : Int) + 1) = T) (hT0 : 0 ≤ T) (hT1 : T ≤ 100) (hSh : opShape ((k : Int) + 1) = 2) (ha0 : 0 ≤ a) (ha1 : a < 8) (hb0 : 0 ≤ b) (hb1 : b < 8) (hn : -2147483648 ≤ n ∧ n ≤ 2147483647) 
    (Hch : Hid (∀ w, Calls Tryd.prog 24 #[.agg #[.int .i64 ((k : Int) + 1), .int .i64 a, .int .i64 b, .int .i32 n, .int .i64 0]] w fun e w' => e = .returned (.int .i64 0) ∧ Below w.heap.size w w')) :
    Calls Tryd.prog 35 #[.agg #[.int .i64 ((k : Int) + 1), .int .i64 a, .int .i64 b, .int .i32 n, .int .i64 0]] w (GivesE w (lowB (T + addF 0) :: ([lowB a] ++ le (n % 4294967296) (0 : Int).toNat))) := by
  obtain ⟨i0, hi0, hk0, hk1, hk2⟩ := info_parts u8_info
  obtain ⟨hn0, hn1⟩ := hn
  skip
  have HT := Lib.hid hT
  have HSh := Lib.hid hSh
  clear hT hSh
  go_enter Tryd.func35, Tryd.ntmps35
  go_wp2_with (go_at_call 24; refine (Hch.out _).mono ?_; rintro e w2 ⟨rfl, hb2⟩; have hz2 : w.heap.size < w2.heap.size := (by have := hb2.size; simp at this; omega); obtain ⟨hc2, _⟩ := bcell hb2; have p0 : w2.cell? ⟨w.heap.size, 0, none⟩ = some (.int .i64 ((k : Int) + 1)) := (by rw [hc2 _ _ (by simp)]; exact (Blk.new w _ _).cell 0); have p1 : w2.cell? ⟨w.heap.size, 1, none⟩ = some (.int .i64 a) := (by rw [hc2 _ _ (by simp)]; exact (Blk.new w _ _).cell 1); have p2 : w2.cell? ⟨w.heap.size, 2, none⟩ = some (.int .i64 b) := (by rw [hc2 _ _ (by simp)]; exact (Blk.new w _ _).cell 2); have p3 : w2.cell? ⟨w.heap.size, 3, none⟩ = some (.int .i32 n) := (by rw [hc2 _ _ (by simp)]; exact (Blk.new w _ _).cell 3); have p4 : w2.cell? ⟨w.heap.size, 4, none⟩ = some (.int .i64 0) := (by rw [hc2 _ _ (by simp)]; exact (Blk.new w _ _).cell 4))
  refine wp_region_swap (ops' := refEnc4) (by kernel_rfl) ?_
  refine reg4 k w.heap.size _ _ _ _ _ _ _ _ _ _ _ _ w2 _ hk hz2 p0 ?_
  intro g x13 x14 x15 x16 x17 x18 w3 hb3 hg0 hg1 cB cS
  rw [HT.out] at cB
  rw [HSh.out] at cS
  have hz3' := hb3.size
  have hz3 : w.heap.size < w3.heap.size := by omega
  obtain ⟨hc3, _⟩ := bcell hb3
  have q1 := (hc3 _ _ hz2).trans p1
  have q2 := (hc3 _ _ hz2).trans p2
  have q3 := (hc3 _ _ hz2).trans p3
  have q4 := (hc3 _ _ hz2).trans p4
  have hd1 := (World.cell?_alloc_lt w3 (.cells #[.int .u8 (T)] 5) ⟨w.heap.size, 1, none⟩ hz3).trans q1
  have hd3 := (World.cell?_alloc_lt w3 (.cells #[.int .u8 (T)] 5) ⟨w.heap.size, 3, none⟩ hz3).trans q3
  have hd4 := (World.cell?_alloc_lt w3 (.cells #[.int .u8 (T)] 5) ⟨w.heap.size, 4, none⟩ hz3).trans q4
  have hB3 : Below w.heap.size w w3 := (((Below.refl w.heap.size w).alloc (Nat.le_refl _) _).trans (hb2.mono (by simp))).trans (hb3.mono (by omega))
  go_wp2_with (first
      | (at_builtin
         refine wpList_app _ rfl (.tmp 38) (.tmp 42) _ rfl w3.heap.size 5 i0 _ 1 1 Tryd.underlying55 hi0 hk0 hk1 hk2 rfl (by omega) (.slice (some ⟨w3.heap.size, 0, none⟩) 1 1) 1 [.int .u8 (T)] rfl ((own_new w3 5 1 1 [.int .u8 (T)] rfl (by unfold maxLen; omega)).alloc _) (w3.heap.size + 2) (some ⟨w3.heap.size + 1, 0, none⟩) 1 1 [.int .u8 a] rfl (by have := sl_new (w3.alloc (.cells #[.int .u8 (T)] 5)) [.int .u8 a] 1 1 rfl 5; simpa using this) (by intro u hu; simp at hu; rcases hu with rfl | rfl <;> rfl) (by unfold maxLen; omega) (by omega) (by simp; omega) 2 rfl (bs (lowB (T + addF 0) :: [lowB a])) (by rw [show addF 0 = 0 from rfl]; simp only [bs, List.map_cons, List.map_nil, lowB_toNat, List.cons_append, List.nil_append]; simp only [List.cons.injEq, Value.int.injEq, true_and, and_true]; omega) ?_
         intro A6 c6 w6 hc6 hown6 hg6 _
         have hb6 : Below w3.heap.size w3 w6 := below_app (((Below.refl _ _).alloc (Nat.le_refl _) _).alloc (by simp) _) ((own_new w3 5 1 1 [.int .u8 (T)] rfl (by unfold maxLen; omega)).alloc _) hg6 (by simp; omega)))
  refine bodyPost_ret (v := .tuple #[.slice A6 2 c6, .int .i64 0]) (by simp [results, Tryd.results35, go_sem]) rfl ⟨A6, 2, c6, rfl, hc6, ?_, hB3.trans (hb6.mono (by omega))⟩
  have := Sl.of_own hown6
  simpa [le] using this

set_option maxHeartbeats 1000000 in
theorem renc_3_0 (k : Nat) (a b n T : Int) (w : World) (hk : k < 43) (hT : opByte ((k : Int) + 1) = T) (hT0 : 0 ≤ T) (hT1 : T ≤ 100) (hSh : opShape ((k : Int) + 1) = 3) (ha0 : 0 ≤ a) (ha1 : a < 8) (hb0 : 0 ≤ b) (hb1 : b < 8) (hn : -2147483648 ≤ n ∧ n ≤ 2147483647) 
    (Hch : Hid (∀ w, Calls Tryd.prog 24 #[.agg #[.int .i64 ((k : Int) + 1), .int .i64 a, .int .i64 b, .int .i32 n, .int .i64 0]] w fun e w' => e = .returned (.int .i64 0) ∧ Below w.heap.size w w')) :
    Calls Tryd.prog 35 #[.agg #[.int .i64 ((k : Int) + 1), .int .i64 a, .int .i64 b, .int .i32 n, .int .i64 0]] w (GivesE w (lowB (T + addF 0) :: ([lowB a] ++ le (n % 4294967296) (0 : Int).toNat))) := by
  obtain ⟨i0, hi0, hk0, hk1, hk2⟩ := info_parts u8_info
  obtain ⟨hn0, hn1⟩ := hn
  skip
  have HT := Lib.hid hT
  have HSh := Lib.hid hSh
  clear hT hSh
  go_enter Tryd.func35, Tryd.ntmps35
  go_wp2_with (go_at_call 24; refine (Hch.out _).mono ?_; rintro e w2 ⟨rfl, hb2⟩; have hz2 : w.heap.size < w2.heap.size := (by have := hb2.size; simp at this; omega); obtain ⟨hc2, _⟩ := bcell hb2; have p0 : w2.cell? ⟨w.heap.size, 0, none⟩ = some (.int .i64 ((k : Int) + 1)) := (by rw [hc2 _ _ (by simp)]; exact (Blk.new w _ _).cell 0); have p1 : w2.cell? ⟨w.heap.size, 1, none⟩ = some (.int .i64 a) := (by rw [hc2 _ _ (by simp)]; exact (Blk.new w _ _).cell 1); have p2 : w2.cell? ⟨w.heap.size, 2, none⟩ = some (.int .i64 b) := (by rw [hc2 _ _ (by simp)]; exact (Blk.new w _ _).cell 2); have p3 : w2.cell? ⟨w.heap.size, 3, none⟩ = some (.int .i32 n) := (by rw [hc2 _ _ (by simp)]; exact (Blk.new w _ _).cell 3); have p4 : w2.cell? ⟨w.heap.size, 4, none⟩ = some (.int .i64 0) := (by rw [hc2 _ _ (by simp)]; exact (Blk.new w _ _).cell 4))
  refine wp_region_swap (ops' := refEnc4) (by kernel_rfl) ?_
  refine reg4 k w.heap.size _ _ _ _ _ _ _ _ _ _ _ _ w2 _ hk hz2 p0 ?_
  intro g x13 x14 x15 x16 x17 x18 w3 hb3 hg0 hg1 cB cS
  rw [HT.out] at cB
  rw [HSh.out] at cS
  have hz3' := hb3.size
  have hz3 : w.heap.size < w3.heap.size := by omega
  obtain ⟨hc3, _⟩ := bcell hb3
  have q1 := (hc3 _ _ hz2).trans p1
  have q2 := (hc3 _ _ hz2).trans p2
  have q3 := (hc3 _ _ hz2).trans p3
  have q4 := (hc3 _ _ hz2).trans p4
  have hd1 := (World.cell?_alloc_lt w3 (.cells #[.int .u8 (T)] 5) ⟨w.heap.size, 1, none⟩ hz3).trans q1
  have hd3 := (World.cell?_alloc_lt w3 (.cells #[.int .u8 (T)] 5) ⟨w.heap.size, 3, none⟩ hz3).trans q3
  have hd4 := (World.cell?_alloc_lt w3 (.cells #[.int .u8 (T)] 5) ⟨w.heap.size, 4, none⟩ hz3).trans q4
  have hB3 : Below w.heap.size w w3 := (((Below.refl w.heap.size w).alloc (Nat.le_refl _) _).trans (hb2.mono (by simp))).trans (hb3.mono (by omega))
  go_wp2_with (first
      | (at_builtin
         refine wpList_app _ rfl (.tmp 38) (.tmp 42) _ rfl w3.heap.size 5 i0 _ 1 1 Tryd.underlying55 hi0 hk0 hk1 hk2 rfl (by omega) (.slice (some ⟨w3.heap.size, 0, none⟩) 1 1) 1 [.int .u8 (T)] rfl ((own_new w3 5 1 1 [.int .u8 (T)] rfl (by unfold maxLen; omega)).alloc _) (w3.heap.size + 2) (some ⟨w3.heap.size + 1, 0, none⟩) 1 1 [.int .u8 a] rfl (by have := sl_new (w3.alloc (.cells #[.int .u8 (T)] 5)) [.int .u8 a] 1 1 rfl 5; simpa using this) (by intro u hu; simp at hu; rcases hu with rfl | rfl <;> rfl) (by unfold maxLen; omega) (by omega) (by simp; omega) 2 rfl (bs (lowB (T + addF 0) :: [lowB a])) (by rw [show addF 0 = 0 from rfl]; simp only [bs, List.map_cons, List.map_nil, lowB_toNat, List.cons_append, List.nil_append]; simp only [List.cons.injEq, Value.int.injEq, true_and, and_true]; omega) ?_
         intro A6 c6 w6 hc6 hown6 hg6 _
         have hb6 : Below w3.heap.size w3 w6 := below_app (((Below.refl _ _).alloc (Nat.le_refl _) _).alloc (by simp) _) ((own_new w3 5 1 1 [.int .u8 (T)] rfl (by unfold maxLen; omega)).alloc _) hg6 (by simp; omega)))
  refine bodyPost_ret (v := .tuple #[.slice A6 2 c6, .int .i64 0]) (by simp [results, Tryd.results35, go_sem]) rfl ⟨A6, 2, c6, rfl, hc6, ?_, hB3.trans (hb6.mono (by omega))⟩
  have := Sl.of_own hown6
  simpa [le] using this

set_option maxHeartbeats 1000000 in
theorem renc_4_0 (k : Nat) (a b n T : Int) (w : World) (hk : k < 43) (hT : opByte ((k : Int) + 1) = T) (hT0 : 0 ≤ T) (hT1 : T ≤ 100) (hSh : opShape ((k : Int) + 1) = 4) (ha0 : 0 ≤ a) (ha1 : a < 8) (hb0 : 0 ≤ b) (hb1 : b < 8) (hn : -2147483648 ≤ n ∧ n ≤ 2147483647) 
    (Hch : Hid (∀ w, Calls Tryd.prog 24 #[.agg #[.int .i64 ((k : Int) + 1), .int .i64 a, .int .i64 b, .int .i32 n, .int .i64 0]] w fun e w' => e = .returned (.int .i64 0) ∧ Below w.heap.size w w')) :
    Calls Tryd.prog 35 #[.agg #[.int .i64 ((k : Int) + 1), .int .i64 a, .int .i64 b, .int .i32 n, .int .i64 0]] w (GivesE w (lowB (T + addF 0) :: ([lowB (16 * a + b)] ++ le (n % 4294967296) (0 : Int).toNat))) := by
  obtain ⟨i0, hi0, hk0, hk1, hk2⟩ := info_parts u8_info
  obtain ⟨hn0, hn1⟩ := hn
  skip
  have HT := Lib.hid hT
  have HSh := Lib.hid hSh
  clear hT hSh
  go_enter Tryd.func35, Tryd.ntmps35
  go_wp2_with (go_at_call 24; refine (Hch.out _).mono ?_; rintro e w2 ⟨rfl, hb2⟩; have hz2 : w.heap.size < w2.heap.size := (by have := hb2.size; simp at this; omega); obtain ⟨hc2, _⟩ := bcell hb2; have p0 : w2.cell? ⟨w.heap.size, 0, none⟩ = some (.int .i64 ((k : Int) + 1)) := (by rw [hc2 _ _ (by simp)]; exact (Blk.new w _ _).cell 0); have p1 : w2.cell? ⟨w.heap.size, 1, none⟩ = some (.int .i64 a) := (by rw [hc2 _ _ (by simp)]; exact (Blk.new w _ _).cell 1); have p2 : w2.cell? ⟨w.heap.size, 2, none⟩ = some (.int .i64 b) := (by rw [hc2 _ _ (by simp)]; exact (Blk.new w _ _).cell 2); have p3 : w2.cell? ⟨w.heap.size, 3, none⟩ = some (.int .i32 n) := (by rw [hc2 _ _ (by simp)]; exact (Blk.new w _ _).cell 3); have p4 : w2.cell? ⟨w.heap.size, 4, none⟩ = some (.int .i64 0) := (by rw [hc2 _ _ (by simp)]; exact (Blk.new w _ _).cell 4))
  refine wp_region_swap (ops' := refEnc4) (by kernel_rfl) ?_
  refine reg4 k w.heap.size _ _ _ _ _ _ _ _ _ _ _ _ w2 _ hk hz2 p0 ?_
  intro g x13 x14 x15 x16 x17 x18 w3 hb3 hg0 hg1 cB cS
  rw [HT.out] at cB
  rw [HSh.out] at cS
  have hz3' := hb3.size
  have hz3 : w.heap.size < w3.heap.size := by omega
  obtain ⟨hc3, _⟩ := bcell hb3
  have q1 := (hc3 _ _ hz2).trans p1
  have q2 := (hc3 _ _ hz2).trans p2
  have q3 := (hc3 _ _ hz2).trans p3
  have q4 := (hc3 _ _ hz2).trans p4
  have hd1 := (World.cell?_alloc_lt w3 (.cells #[.int .u8 (T)] 5) ⟨w.heap.size, 1, none⟩ hz3).trans q1
  have hd3 := (World.cell?_alloc_lt w3 (.cells #[.int .u8 (T)] 5) ⟨w.heap.size, 3, none⟩ hz3).trans q3
  have hd4 := (World.cell?_alloc_lt w3 (.cells #[.int .u8 (T)] 5) ⟨w.heap.size, 4, none⟩ hz3).trans q4
  have hB3 : Below w.heap.size w w3 := (((Below.refl w.heap.size w).alloc (Nat.le_refl _) _).trans (hb2.mono (by simp))).trans (hb3.mono (by omega))
  go_wp2_with (first
      | (at_builtin
         refine wpList_app _ rfl (.tmp 48) (.tmp 56) _ rfl w3.heap.size 5 i0 _ 1 1 Tryd.underlying55 hi0 hk0 hk1 hk2 rfl (by omega) (.slice (some ⟨w3.heap.size, 0, none⟩) 1 1) 1 [.int .u8 (T)] rfl ((own_new w3 5 1 1 [.int .u8 (T)] rfl (by unfold maxLen; omega)).alloc _) (w3.heap.size + 2) (some ⟨w3.heap.size + 1, 0, none⟩) 1 1 [.int .u8 (16 * a + b)] rfl (by have := sl_new (w3.alloc (.cells #[.int .u8 (T)] 5)) [.int .u8 (16 * a + b)] 1 1 rfl 5; simpa using this) (by intro u hu; simp at hu; rcases hu with rfl | rfl <;> rfl) (by unfold maxLen; omega) (by omega) (by simp; omega) 2 rfl (bs (lowB (T + addF 0) :: [lowB (16 * a + b)])) (by rw [show addF 0 = 0 from rfl]; simp only [bs, List.map_cons, List.map_nil, lowB_toNat, List.cons_append, List.nil_append]; simp only [List.cons.injEq, Value.int.injEq, true_and, and_true]; omega) ?_
         intro A6 c6 w6 hc6 hown6 hg6 _
         have hb6 : Below w3.heap.size w3 w6 := below_app (((Below.refl _ _).alloc (Nat.le_refl _) _).alloc (by simp) _) ((own_new w3 5 1 1 [.int .u8 (T)] rfl (by unfold maxLen; omega)).alloc _) hg6 (by simp; omega)))
  refine bodyPost_ret (v := .tuple #[.slice A6 2 c6, .int .i64 0]) (by simp [results, Tryd.results35, go_sem]) rfl ⟨A6, 2, c6, rfl, hc6, ?_, hB3.trans (hb6.mono (by omega))⟩
  have := Sl.of_own hown6
  simpa [le] using this

set_option maxHeartbeats 1000000 in
theorem renc_5_0 (k : Nat) (a b n T : Int) (w : World) (hk : k < 43) (hT : opByte ((k : Int) + 1) = T) (hT0 : 0 ≤ T) (hT1 : T ≤ 100) (hSh : opShape ((k : Int) + 1) = 5) (ha0 : 0 ≤ a) (ha1 : a < 8) (hb0 : 0 ≤ b) (hb1 : b < 8) (hn : -2147483648 ≤ n ∧ n ≤ 2147483647) 
    (Hch : Hid (∀ w, Calls Tryd.prog 24 #[.agg #[.int .i64 ((k : Int) + 1), .int .i64 a, .int .i64 b, .int .i32 n, .int .i64 0]] w fun e w' => e = .returned (.int .i64 0) ∧ Below w.heap.size w w')) :
    Calls Tryd.prog 35 #[.agg #[.int .i64 ((k : Int) + 1), .int .i64 a, .int .i64 b, .int .i32 n, .int .i64 0]] w (GivesE w (lowB (T + addF 0) :: ([lowB (16 * a + b)] ++ le (n % 4294967296) (0 : Int).toNat))) := by
  obtain ⟨i0, hi0, hk0, hk1, hk2⟩ := info_parts u8_info
  obtain ⟨hn0, hn1⟩ := hn
  skip
  have HT := Lib.hid hT
  have HSh := Lib.hid hSh
  clear hT hSh
  go_enter Tryd.func35, Tryd.ntmps35
  go_wp2_with (go_at_call 24; refine (Hch.out _).mono ?_; rintro e w2 ⟨rfl, hb2⟩; have hz2 : w.heap.size < w2.heap.size := (by have := hb2.size; simp at this; omega); obtain ⟨hc2, _⟩ := bcell hb2; have p0 : w2.cell? ⟨w.heap.size, 0, none⟩ = some (.int .i64 ((k : Int) + 1)) := (by rw [hc2 _ _ (by simp)]; exact (Blk.new w _ _).cell 0); have p1 : w2.cell? ⟨w.heap.size, 1, none⟩ = some (.int .i64 a) := (by rw [hc2 _ _ (by simp)]; exact (Blk.new w _ _).cell 1); have p2 : w2.cell? ⟨w.heap.size, 2, none⟩ = some (.int .i64 b) := (by rw [hc2 _ _ (by simp)]; exact (Blk.new w _ _).cell 2); have p3 : w2.cell? ⟨w.heap.size, 3, none⟩ = some (.int .i32 n) := (by rw [hc2 _ _ (by simp)]; exact (Blk.new w _ _).cell 3); have p4 : w2.cell? ⟨w.heap.size, 4, none⟩ = some (.int .i64 0) := (by rw [hc2 _ _ (by simp)]; exact (Blk.new w _ _).cell 4))
  refine wp_region_swap (ops' := refEnc4) (by kernel_rfl) ?_
  refine reg4 k w.heap.size _ _ _ _ _ _ _ _ _ _ _ _ w2 _ hk hz2 p0 ?_
  intro g x13 x14 x15 x16 x17 x18 w3 hb3 hg0 hg1 cB cS
  rw [HT.out] at cB
  rw [HSh.out] at cS
  have hz3' := hb3.size
  have hz3 : w.heap.size < w3.heap.size := by omega
  obtain ⟨hc3, _⟩ := bcell hb3
  have q1 := (hc3 _ _ hz2).trans p1
  have q2 := (hc3 _ _ hz2).trans p2
  have q3 := (hc3 _ _ hz2).trans p3
  have q4 := (hc3 _ _ hz2).trans p4
  have hd1 := (World.cell?_alloc_lt w3 (.cells #[.int .u8 (T)] 5) ⟨w.heap.size, 1, none⟩ hz3).trans q1
  have hd3 := (World.cell?_alloc_lt w3 (.cells #[.int .u8 (T)] 5) ⟨w.heap.size, 3, none⟩ hz3).trans q3
  have hd4 := (World.cell?_alloc_lt w3 (.cells #[.int .u8 (T)] 5) ⟨w.heap.size, 4, none⟩ hz3).trans q4
  have hB3 : Below w.heap.size w w3 := (((Below.refl w.heap.size w).alloc (Nat.le_refl _) _).trans (hb2.mono (by simp))).trans (hb3.mono (by omega))
  go_wp2_with (first
      | (at_builtin
         refine wpList_app _ rfl (.tmp 48) (.tmp 56) _ rfl w3.heap.size 5 i0 _ 1 1 Tryd.underlying55 hi0 hk0 hk1 hk2 rfl (by omega) (.slice (some ⟨w3.heap.size, 0, none⟩) 1 1) 1 [.int .u8 (T)] rfl ((own_new w3 5 1 1 [.int .u8 (T)] rfl (by unfold maxLen; omega)).alloc _) (w3.heap.size + 2) (some ⟨w3.heap.size + 1, 0, none⟩) 1 1 [.int .u8 (16 * a + b)] rfl (by have := sl_new (w3.alloc (.cells #[.int .u8 (T)] 5)) [.int .u8 (16 * a + b)] 1 1 rfl 5; simpa using this) (by intro u hu; simp at hu; rcases hu with rfl | rfl <;> rfl) (by unfold maxLen; omega) (by omega) (by simp; omega) 2 rfl (bs (lowB (T + addF 0) :: [lowB (16 * a + b)])) (by rw [show addF 0 = 0 from rfl]; simp only [bs, List.map_cons, List.map_nil, lowB_toNat, List.cons_append, List.nil_append]; simp only [List.cons.injEq, Value.int.injEq, true_and, and_true]; omega) ?_
         intro A6 c6 w6 hc6 hown6 hg6 _
         have hb6 : Below w3.heap.size w3 w6 := below_app (((Below.refl _ _).alloc (Nat.le_refl _) _).alloc (by simp) _) ((own_new w3 5 1 1 [.int .u8 (T)] rfl (by unfold maxLen; omega)).alloc _) hg6 (by simp; omega)))
  refine bodyPost_ret (v := .tuple #[.slice A6 2 c6, .int .i64 0]) (by simp [results, Tryd.results35, go_sem]) rfl ⟨A6, 2, c6, rfl, hc6, ?_, hB3.trans (hb6.mono (by omega))⟩
  have := Sl.of_own hown6
  simpa [le] using this

set_option maxHeartbeats 1000000 in
theorem renc_6_0 (k : Nat) (a b n T : Int) (w : World) (hk : k < 43) (hT : opByte ((k : Int) + 1) = T) (hT0 : 0 ≤ T) (hT1 : T ≤ 100) (hSh : opShape ((k : Int) + 1) = 6) (ha0 : 0 ≤ a) (ha1 : a < 8) (hb0 : 0 ≤ b) (hb1 : b < 8) (hn : -2147483648 ≤ n ∧ n ≤ 2147483647) 
    (Hch : Hid (∀ w, Calls Tryd.prog 24 #[.agg #[.int .i64 ((k : Int) + 1), .int .i64 a, .int .i64 b, .int .i32 n, .int .i64 0]] w fun e w' => e = .returned (.int .i64 0) ∧ Below w.heap.size w w')) :
    Calls Tryd.prog 35 #[.agg #[.int .i64 ((k : Int) + 1), .int .i64 a, .int .i64 b, .int .i32 n, .int .i64 0]] w (GivesE w (lowB (T + addF 0) :: ([lowB (16 * a + b)] ++ le (n % 4294967296) (0 : Int).toNat))) := by
  obtain ⟨i0, hi0, hk0, hk1, hk2⟩ := info_parts u8_info
  obtain ⟨hn0, hn1⟩ := hn
  skip
  have HT := Lib.hid hT
  have HSh := Lib.hid hSh
  clear hT hSh
  go_enter Tryd.func35, Tryd.ntmps35
  go_wp2_with (go_at_call 24; refine (Hch.out _).mono ?_; rintro e w2 ⟨rfl, hb2⟩; have hz2 : w.heap.size < w2.heap.size := (by have := hb2.size; simp at this; omega); obtain ⟨hc2, _⟩ := bcell hb2; have p0 : w2.cell? ⟨w.heap.size, 0, none⟩ = some (.int .i64 ((k : Int) + 1)) := (by rw [hc2 _ _ (by simp)]; exact (Blk.new w _ _).cell 0); have p1 : w2.cell? ⟨w.heap.size, 1, none⟩ = some (.int .i64 a) := (by rw [hc2 _ _ (by simp)]; exact (Blk.new w _ _).cell 1); have p2 : w2.cell? ⟨w.heap.size, 2, none⟩ = some (.int .i64 b) := (by rw [hc2 _ _ (by simp)]; exact (Blk.new w _ _).cell 2); have p3 : w2.cell? ⟨w.heap.size, 3, none⟩ = some (.int .i32 n) := (by rw [hc2 _ _ (by simp)]; exact (Blk.new w _ _).cell 3); have p4 : w2.cell? ⟨w.heap.size, 4, none⟩ = some (.int .i64 0) := (by rw [hc2 _ _ (by simp)]; exact (Blk.new w _ _).cell 4))
  refine wp_region_swap (ops' := refEnc4) (by kernel_rfl) ?_
  refine reg4 k w.heap.size _ _ _ _ _ _ _ _ _ _ _ _ w2 _ hk hz2 p0 ?_
  intro g x13 x14 x15 x16 x17 x18 w3 hb3 hg0 hg1 cB cS
  rw [HT.out] at cB
  rw [HSh.out] at cS
  have hz3' := hb3.size
  have hz3 : w.heap.size < w3.heap.size := by omega
  obtain ⟨hc3, _⟩ := bcell hb3
  have q1 := (hc3 _ _ hz2).trans p1
  have q2 := (hc3 _ _ hz2).trans p2
  have q3 := (hc3 _ _ hz2).trans p3
  have q4 := (hc3 _ _ hz2).trans p4
  have hd1 := (World.cell?_alloc_lt w3 (.cells #[.int .u8 (T)] 5) ⟨w.heap.size, 1, none⟩ hz3).trans q1
  have hd3 := (World.cell?_alloc_lt w3 (.cells #[.int .u8 (T)] 5) ⟨w.heap.size, 3, none⟩ hz3).trans q3
  have hd4 := (World.cell?_alloc_lt w3 (.cells #[.int .u8 (T)] 5) ⟨w.heap.size, 4, none⟩ hz3).trans q4
  have hB3 : Below w.heap.size w w3 := (((Below.refl w.heap.size w).alloc (Nat.le_refl _) _).trans (hb2.mono (by simp))).trans (hb3.mono (by omega))
  go_wp2_with (first
      | (at_builtin
         refine wpList_app _ rfl (.tmp 48) (.tmp 56) _ rfl w3.heap.size 5 i0 _ 1 1 Tryd.underlying55 hi0 hk0 hk1 hk2 rfl (by omega) (.slice (some ⟨w3.heap.size, 0, none⟩) 1 1) 1 [.int .u8 (T)] rfl ((own_new w3 5 1 1 [.int .u8 (T)] rfl (by unfold maxLen; omega)).alloc _) (w3.heap.size + 2) (some ⟨w3.heap.size + 1, 0, none⟩) 1 1 [.int .u8 (16 * a + b)] rfl (by have := sl_new (w3.alloc (.cells #[.int .u8 (T)] 5)) [.int .u8 (16 * a + b)] 1 1 rfl 5; simpa using this) (by intro u hu; simp at hu; rcases hu with rfl | rfl <;> rfl) (by unfold maxLen; omega) (by omega) (by simp; omega) 2 rfl (bs (lowB (T + addF 0) :: [lowB (16 * a + b)])) (by rw [show addF 0 = 0 from rfl]; simp only [bs, List.map_cons, List.map_nil, lowB_toNat, List.cons_append, List.nil_append]; simp only [List.cons.injEq, Value.int.injEq, true_and, and_true]; omega) ?_
         intro A6 c6 w6 hc6 hown6 hg6 _
         have hb6 : Below w3.heap.size w3 w6 := below_app (((Below.refl _ _).alloc (Nat.le_refl _) _).alloc (by simp) _) ((own_new w3 5 1 1 [.int .u8 (T)] rfl (by unfold maxLen; omega)).alloc _) hg6 (by simp; omega)))
  refine bodyPost_ret (v := .tuple #[.slice A6 2 c6, .int .i64 0]) (by simp [results, Tryd.results35, go_sem]) rfl ⟨A6, 2, c6, rfl, hc6, ?_, hB3.trans (hb6.mono (by omega))⟩
  have := Sl.of_own hown6
  simpa [le] using this

set_option maxHeartbeats 1000000 in
theorem renc_7_0 (k : Nat) (a b n T : Int) (w : World) (hk : k < 43) (hT : opByte ((k : Int) + 1) = T) (hT0 : 0 ≤ T) (hT1 : T ≤ 100) (hSh : opShape ((k : Int) + 1) = 7) (ha0 : 0 ≤ a) (ha1 : a < 8) (hb0 : 0 ≤ b) (hb1 : b < 8) (hn : -2147483648 ≤ n ∧ n ≤ 2147483647) (hn7 : 0 ≤ n ∧ n < 8)
    (Hch : Hid (∀ w, Calls Tryd.prog 24 #[.agg #[.int .i64 ((k : Int) + 1), .int .i64 a, .int .i64 b, .int .i32 n, .int .i64 0]] w fun e w' => e = .returned (.int .i64 0) ∧ Below w.heap.size w w')) :
    Calls Tryd.prog 35 #[.agg #[.int .i64 ((k : Int) + 1), .int .i64 a, .int .i64 b, .int .i32 n, .int .i64 0]] w (GivesE w (lowB (T + addF 0) :: ([lowB a, lowB (16 * b + n)] ++ le (n % 4294967296) (0 : Int).toNat))) := by
  obtain ⟨i0, hi0, hk0, hk1, hk2⟩ := info_parts u8_info
  obtain ⟨hn0, hn1⟩ := hn
  obtain ⟨hn2, hn3⟩ := hn7
  have HT := Lib.hid hT
  have HSh := Lib.hid hSh
  clear hT hSh
  go_enter Tryd.func35, Tryd.ntmps35
  go_wp2_with (go_at_call 24; refine (Hch.out _).mono ?_; rintro e w2 ⟨rfl, hb2⟩; have hz2 : w.heap.size < w2.heap.size := (by have := hb2.size; simp at this; omega); obtain ⟨hc2, _⟩ := bcell hb2; have p0 : w2.cell? ⟨w.heap.size, 0, none⟩ = some (.int .i64 ((k : Int) + 1)) := (by rw [hc2 _ _ (by simp)]; exact (Blk.new w _ _).cell 0); have p1 : w2.cell? ⟨w.heap.size, 1, none⟩ = some (.int .i64 a) := (by rw [hc2 _ _ (by simp)]; exact (Blk.new w _ _).cell 1); have p2 : w2.cell? ⟨w.heap.size, 2, none⟩ = some (.int .i64 b) := (by rw [hc2 _ _ (by simp)]; exact (Blk.new w _ _).cell 2); have p3 : w2.cell? ⟨w.heap.size, 3, none⟩ = some (.int .i32 n) := (by rw [hc2 _ _ (by simp)]; exact (Blk.new w _ _).cell 3); have p4 : w2.cell? ⟨w.heap.size, 4, none⟩ = some (.int .i64 0) := (by rw [hc2 _ _ (by simp)]; exact (Blk.new w _ _).cell 4))
  refine wp_region_swap (ops' := refEnc4) (by kernel_rfl) ?_
  refine reg4 k w.heap.size _ _ _ _ _ _ _ _ _ _ _ _ w2 _ hk hz2 p0 ?_
  intro g x13 x14 x15 x16 x17 x18 w3 hb3 hg0 hg1 cB cS
  rw [HT.out] at cB
  rw [HSh.out] at cS
  have hz3' := hb3.size
  have hz3 : w.heap.size < w3.heap.size := by omega
  obtain ⟨hc3, _⟩ := bcell hb3
  have q1 := (hc3 _ _ hz2).trans p1
  have q2 := (hc3 _ _ hz2).trans p2
  have q3 := (hc3 _ _ hz2).trans p3
  have q4 := (hc3 _ _ hz2).trans p4
  have hd1 := (World.cell?_alloc_lt w3 (.cells #[.int .u8 (T)] 5) ⟨w.heap.size, 1, none⟩ hz3).trans q1
  have hd3 := (World.cell?_alloc_lt w3 (.cells #[.int .u8 (T)] 5) ⟨w.heap.size, 3, none⟩ hz3).trans q3
  have hd4 := (World.cell?_alloc_lt w3 (.cells #[.int .u8 (T)] 5) ⟨w.heap.size, 4, none⟩ hz3).trans q4
  have hB3 : Below w.heap.size w w3 := (((Below.refl w.heap.size w).alloc (Nat.le_refl _) _).trans (hb2.mono (by simp))).trans (hb3.mono (by omega))
  go_wp2_with (first
      | (at_builtin
         refine wpList_app _ rfl (.tmp 60) (.tmp 72) _ rfl w3.heap.size 5 i0 _ 1 1 Tryd.underlying55 hi0 hk0 hk1 hk2 rfl (by omega) (.slice (some ⟨w3.heap.size, 0, none⟩) 1 1) 1 [.int .u8 (T)] rfl ((own_new w3 5 1 1 [.int .u8 (T)] rfl (by unfold maxLen; omega)).alloc _) (w3.heap.size + 2) (some ⟨w3.heap.size + 1, 0, none⟩) 2 2 [.int .u8 a, .int .u8 (16 * b + n)] rfl (by have := sl_new (w3.alloc (.cells #[.int .u8 (T)] 5)) [.int .u8 a, .int .u8 (16 * b + n)] 1 2 rfl 5; simpa using this) (by intro u hu; simp at hu; rcases hu with rfl | rfl <;> rfl) (by unfold maxLen; omega) (by omega) (by simp; omega) 3 rfl (bs (lowB (T + addF 0) :: [lowB a, lowB (16 * b + n)])) (by rw [show addF 0 = 0 from rfl]; simp only [bs, List.map_cons, List.map_nil, lowB_toNat, List.cons_append, List.nil_append]; simp only [List.cons.injEq, Value.int.injEq, true_and, and_true]; omega) ?_
         intro A6 c6 w6 hc6 hown6 hg6 _
         have hb6 : Below w3.heap.size w3 w6 := below_app (((Below.refl _ _).alloc (Nat.le_refl _) _).alloc (by simp) _) ((own_new w3 5 1 1 [.int .u8 (T)] rfl (by unfold maxLen; omega)).alloc _) hg6 (by simp; omega)))
  refine bodyPost_ret (v := .tuple #[.slice A6 3 c6, .int .i64 0]) (by simp [results, Tryd.results35, go_sem]) rfl ⟨A6, 3, c6, rfl, hc6, ?_, hB3.trans (hb6.mono (by omega))⟩
  have := Sl.of_own hown6
  simpa [le] using this

set_option maxHeartbeats 1000000 in
theorem renc_8_0 (k : Nat) (a b n T : Int) (w : World) (hk : k < 43) (hT : opByte ((k : Int) + 1) = T) (hT0 : 0 ≤ T) (hT1 : T ≤ 100) (hSh : opShape ((k : Int) + 1) = 8) (ha0 : 0 ≤ a) (ha1 : a < 8) (hb0 : 0 ≤ b) (hb1 : b < 8) (hn : -2147483648 ≤ n ∧ n ≤ 2147483647) 
    (Hch : Hid (∀ w, Calls Tryd.prog 24 #[.agg #[.int .i64 ((k : Int) + 1), .int .i64 a, .int .i64 b, .int .i32 n, .int .i64 0]] w fun e w' => e = .returned (.int .i64 0) ∧ Below w.heap.size w w')) :
    Calls Tryd.prog 35 #[.agg #[.int .i64 ((k : Int) + 1), .int .i64 a, .int .i64 b, .int .i32 n, .int .i64 0]] w (GivesE w (lowB (T + addF 0) :: ([lowB a] ++ le (n % 4294967296) (1 : Int).toNat))) := by
  obtain ⟨i0, hi0, hk0, hk1, hk2⟩ := info_parts u8_info
  obtain ⟨hn0, hn1⟩ := hn
  skip
  have HT := Lib.hid hT
  have HSh := Lib.hid hSh
  clear hT hSh
  go_enter Tryd.func35, Tryd.ntmps35
  go_wp2_with (go_at_call 24; refine (Hch.out _).mono ?_; rintro e w2 ⟨rfl, hb2⟩; have hz2 : w.heap.size < w2.heap.size := (by have := hb2.size; simp at this; omega); obtain ⟨hc2, _⟩ := bcell hb2; have p0 : w2.cell? ⟨w.heap.size, 0, none⟩ = some (.int .i64 ((k : Int) + 1)) := (by rw [hc2 _ _ (by simp)]; exact (Blk.new w _ _).cell 0); have p1 : w2.cell? ⟨w.heap.size, 1, none⟩ = some (.int .i64 a) := (by rw [hc2 _ _ (by simp)]; exact (Blk.new w _ _).cell 1); have p2 : w2.cell? ⟨w.heap.size, 2, none⟩ = some (.int .i64 b) := (by rw [hc2 _ _ (by simp)]; exact (Blk.new w _ _).cell 2); have p3 : w2.cell? ⟨w.heap.size, 3, none⟩ = some (.int .i32 n) := (by rw [hc2 _ _ (by simp)]; exact (Blk.new w _ _).cell 3); have p4 : w2.cell? ⟨w.heap.size, 4, none⟩ = some (.int .i64 0) := (by rw [hc2 _ _ (by simp)]; exact (Blk.new w _ _).cell 4))
  refine wp_region_swap (ops' := refEnc4) (by kernel_rfl) ?_
  refine reg4 k w.heap.size _ _ _ _ _ _ _ _ _ _ _ _ w2 _ hk hz2 p0 ?_
  intro g x13 x14 x15 x16 x17 x18 w3 hb3 hg0 hg1 cB cS
  rw [HT.out] at cB
  rw [HSh.out] at cS
  have hz3' := hb3.size
  have hz3 : w.heap.size < w3.heap.size := by omega
  obtain ⟨hc3, _⟩ := bcell hb3
  have q1 := (hc3 _ _ hz2).trans p1
  have q2 := (hc3 _ _ hz2).trans p2
  have q3 := (hc3 _ _ hz2).trans p3
  have q4 := (hc3 _ _ hz2).trans p4
  have hd1 := (World.cell?_alloc_lt w3 (.cells #[.int .u8 (T)] 5) ⟨w.heap.size, 1, none⟩ hz3).trans q1
  have hd3 := (World.cell?_alloc_lt w3 (.cells #[.int .u8 (T)] 5) ⟨w.heap.size, 3, none⟩ hz3).trans q3
  have hd4 := (World.cell?_alloc_lt w3 (.cells #[.int .u8 (T)] 5) ⟨w.heap.size, 4, none⟩ hz3).trans q4
  have hB3 : Below w.heap.size w w3 := (((Below.refl w.heap.size w).alloc (Nat.le_refl _) _).trans (hb2.mono (by simp))).trans (hb3.mono (by omega))
  go_wp2_with fail
  have hwa : IntKind.u8.wrap a = a := by simp [IntKind.wrap, IntKind.bits, IntKind.signed]; omega
  have hwn : IntKind.u32.wrap n = n % 4294967296 := by simp [IntKind.wrap, IntKind.bits, IntKind.signed]
  refine held_start (ops' := refEnc22) (l0 := #[false, false, false, false, false, false, false, false, false, false, false]) (S := (fun w' => Below w3.heap.size (w3.alloc (.cells #[.int .u8 (T)] 5)) w' ∧ w'.cell? ⟨w.heap.size, 1, none⟩ = some (.int .i64 a) ∧ w'.cell? ⟨w.heap.size, 3, none⟩ = some (.int .i32 n) ∧ w'.cell? ⟨w.heap.size, 4, none⟩ = some (.int .i64 0))) (by kernel_rfl) (by kernel_rfl) (by kernel_rfl) (by kernel_rfl) ⟨(Below.refl _ _).drew, hd1, hd3, hd4⟩ (fun R hR => ?_)
  (refine held_take (v := ?_) (d := some 76) 0 (by kernel_rfl) (by kernel_rfl) rfl ?_ ?_
   rotate_left
   · intro w hSw
     conv in opOf _ _ => whnf
     (try dsimp only at hSw)
     go_simp
     try (with_reducible rfl)
   try simp only [Act.put, List.setIfInBounds_toArray, List.set_cons_zero, List.set_cons_succ])
  (refine held_take (v := ?_) (d := some 77) 1 (by kernel_rfl) (by kernel_rfl) rfl ?_ ?_
   rotate_left
   · intro w hSw
     conv in opOf _ _ => whnf
     (try dsimp only at hSw)
     go_simp
     try (with_reducible rfl)
   try simp only [Act.put, List.setIfInBounds_toArray, List.set_cons_zero, List.set_cons_succ])
  (refine held_take (v := ?_) (d := some 78) 2 (by kernel_rfl) (by kernel_rfl) rfl ?_ ?_
   rotate_left
   · intro w hSw
     conv in opOf _ _ => whnf
     (try dsimp only at hSw)
     go_simp
     try (with_reducible rfl)
   try simp only [Act.put, List.setIfInBounds_toArray, List.set_cons_zero, List.set_cons_succ])
  (refine held_take (v := ?_) (d := some 79) 3 (by kernel_rfl) (by kernel_rfl) rfl ?_ ?_
   rotate_left
   · intro w hSw
     conv in opOf _ _ => whnf
     (try dsimp only at hSw)
     go_simp
     try simp only [hwa]
     try (with_reducible rfl)
   try simp only [Act.put, List.setIfInBounds_toArray, List.set_cons_zero, List.set_cons_succ])
  (refine held_take (v := ?_) (d := some 82) 6 (by kernel_rfl) (by kernel_rfl) rfl ?_ ?_
   rotate_left
   · intro w hSw
     conv in opOf _ _ => whnf
     (try dsimp only at hSw)
     go_simp
     try (with_reducible rfl)
   try simp only [Act.put, List.setIfInBounds_toArray, List.set_cons_zero, List.set_cons_succ])
  (refine held_take (v := ?_) (d := some 83) 7 (by kernel_rfl) (by kernel_rfl) rfl ?_ ?_
   rotate_left
   · intro w hSw
     conv in opOf _ _ => whnf
     (try dsimp only at hSw)
     go_simp
     try (with_reducible rfl)
   try simp only [Act.put, List.setIfInBounds_toArray, List.set_cons_zero, List.set_cons_succ])
  (refine held_take (v := ?_) (d := some 84) 8 (by kernel_rfl) (by kernel_rfl) rfl ?_ ?_
   rotate_left
   · intro w hSw
     conv in opOf _ _ => whnf
     (try dsimp only at hSw)
     go_simp
     try simp only [hwn]
     try (with_reducible rfl)
   try simp only [Act.put, List.setIfInBounds_toArray, List.set_cons_zero, List.set_cons_succ])
  (refine held_one 4 (by kernel_rfl) (by kernel_rfl) (held_run (v := ?_) (w' := ?_) (d := some 80) 4 (by kernel_rfl) (by kernel_rfl) rfl ?_ ?_)
   rotate_left 2
   · intro hSw
     conv in opOf _ _ => whnf
     go_simp
     first | done | (with_reducible rfl) | (constructor <;> with_reducible rfl)
   intro hS
   refine ⟨keepI hS hz3 ((Below.refl _ _).alloc (by simp) _), ?_⟩
   try simp only [Act.put, List.setIfInBounds_toArray, List.set_cons_zero, List.set_cons_succ])
  (refine held_one 5 (by kernel_rfl) (by kernel_rfl) (held_app (d := some 81) 5 (by kernel_rfl) (by kernel_rfl) rfl (.tmp 76) (.tmp 80) 55 (by kernel_rfl) w3.heap.size 5 i0 _ 1 1 Tryd.underlying55 hi0 hk0 hk1 hk2 rfl (by omega) (.slice (some ⟨w3.heap.size, 0, none⟩) 1 1) 1 [.int .u8 (T)] (by kernel_rfl) ((own_new w3 5 1 1 [.int .u8 (T)] rfl (by unfold maxLen; omega)).alloc _) (w3.heap.size + 2) (some ⟨w3.heap.size + 1, 0, none⟩) 1 1 [.int .u8 a] (by kernel_rfl) (Sl.drew (by have := sl_new (w3.alloc (.cells #[.int .u8 (T)] 5)) [.int .u8 a] 1 1 rfl 5; simpa using this)) (by intro u hu; simp at hu; subst hu; rfl) (by unfold maxLen; omega) (by omega) (by simp; omega) 2 rfl (bs (lowB (T + addF 0) :: [lowB a])) (by rw [show addF 0 = 0 from rfl]; simp only [bs, List.map_cons, List.map_nil, lowB_toNat, List.cons_append, List.nil_append]; simp only [List.cons.injEq, Value.int.injEq, true_and, and_true]; omega) ?_)
   intro A6 c6 w6 hS hc6 hown6 hg6
   have hown5 : World.ownsRow ((w3.alloc (.cells #[.int .u8 (T)] 5)).alloc (.cells #[.int .u8 a] 5)).drew w3.heap.size 5 1 (.slice (some ⟨w3.heap.size, 0, none⟩) 1 1) 1 [.int .u8 (T)] := (own_new w3 5 1 1 [.int .u8 (T)] rfl (by unfold maxLen; omega)).alloc _
   have hb6 := below_app (Below.refl _ _) hown5 hg6 (by show w3.heap.size ≤ ((w3.alloc _).alloc _).heap.size; simp; omega)
   have hz6 := (hS.1.trans hb6).size
   simp at hz6
   refine ⟨keepI hS hz3 hb6, ?_⟩
   try simp only [Act.put, List.setIfInBounds_toArray, List.set_cons_zero, List.set_cons_succ])
  (refine held_one 9 (by kernel_rfl) (by kernel_rfl) (held_callE (d := some 85) 9 (by kernel_rfl) (by kernel_rfl) rfl (fun hS => refPut_E A6 2 c6 (lowB (T + addF 0) :: [lowB a]) (n % 4294967296) 1 _ (Sl.of_own hown6) (by omega) (by omega) (by omega)) (by kernel_rfl) ?_)
   rintro V w7 hS ⟨A7, n7, c7, rfl, hc7, hs7, hb7⟩
   refine ⟨keepI hS hz3 (hb7.mono (by omega)), ?_⟩
   try simp only [Act.put, List.setIfInBounds_toArray, List.set_cons_zero, List.set_cons_succ])
  (refine held_take (v := ?_) (d := some 7) 10 (by kernel_rfl) (by kernel_rfl) rfl ?_ ?_
   rotate_left
   · intro w hSw
     conv in opOf _ _ => whnf
     (try dsimp only at hSw)
     go_simp
     try (with_reducible rfl)
   try simp only [Act.put, List.setIfInBounds_toArray, List.set_cons_zero, List.set_cons_succ])
  refine held_done (by kernel_rfl) (fun hS => hR.out _ _ ?_)
  have hB7 : Below w.heap.size w w7 := (hB3.alloc (by omega) _).trans (hS.1.mono (by omega))
  go_wp2_with fail
  refine bodyPost_ret (v := .tuple #[.slice A7 n7 c7, .int .i64 0]) (by simp [results, Tryd.results35, go_sem]) rfl ⟨A7, n7, c7, rfl, hc7, ?_, hB7⟩
  rw [putL_e (by omega)] at hs7
  simpa using hs7

set_option maxHeartbeats 1000000 in
theorem renc_9_0 (k : Nat) (a b n T : Int) (w : World) (hk : k < 43) (hT : opByte ((k : Int) + 1) = T) (hT0 : 0 ≤ T) (hT1 : T ≤ 100) (hSh : opShape ((k : Int) + 1) = 9) (ha0 : 0 ≤ a) (ha1 : a < 8) (hb0 : 0 ≤ b) (hb1 : b < 8) (hn : -2147483648 ≤ n ∧ n ≤ 2147483647) 
    (Hch : Hid (∀ w, Calls Tryd.prog 24 #[.agg #[.int .i64 ((k : Int) + 1), .int .i64 a, .int .i64 b, .int .i32 n, .int .i64 0]] w fun e w' => e = .returned (.int .i64 0) ∧ Below w.heap.size w w')) :
    Calls Tryd.prog 35 #[.agg #[.int .i64 ((k : Int) + 1), .int .i64 a, .int .i64 b, .int .i32 n, .int .i64 0]] w (GivesE w (lowB (T + addF 0) :: ([] ++ le (n % 4294967296) (1 : Int).toNat))) := by
  obtain ⟨i0, hi0, hk0, hk1, hk2⟩ := info_parts u8_info
  obtain ⟨hn0, hn1⟩ := hn
  skip
  have HT := Lib.hid hT
  have HSh := Lib.hid hSh
  clear hT hSh
  go_enter Tryd.func35, Tryd.ntmps35
  go_wp2_with (go_at_call 24; refine (Hch.out _).mono ?_; rintro e w2 ⟨rfl, hb2⟩; have hz2 : w.heap.size < w2.heap.size := (by have := hb2.size; simp at this; omega); obtain ⟨hc2, _⟩ := bcell hb2; have p0 : w2.cell? ⟨w.heap.size, 0, none⟩ = some (.int .i64 ((k : Int) + 1)) := (by rw [hc2 _ _ (by simp)]; exact (Blk.new w _ _).cell 0); have p1 : w2.cell? ⟨w.heap.size, 1, none⟩ = some (.int .i64 a) := (by rw [hc2 _ _ (by simp)]; exact (Blk.new w _ _).cell 1); have p2 : w2.cell? ⟨w.heap.size, 2, none⟩ = some (.int .i64 b) := (by rw [hc2 _ _ (by simp)]; exact (Blk.new w _ _).cell 2); have p3 : w2.cell? ⟨w.heap.size, 3, none⟩ = some (.int .i32 n) := (by rw [hc2 _ _ (by simp)]; exact (Blk.new w _ _).cell 3); have p4 : w2.cell? ⟨w.heap.size, 4, none⟩ = some (.int .i64 0) := (by rw [hc2 _ _ (by simp)]; exact (Blk.new w _ _).cell 4))
  refine wp_region_swap (ops' := refEnc4) (by kernel_rfl) ?_
  refine reg4 k w.heap.size _ _ _ _ _ _ _ _ _ _ _ _ w2 _ hk hz2 p0 ?_
  intro g x13 x14 x15 x16 x17 x18 w3 hb3 hg0 hg1 cB cS
  rw [HT.out] at cB
  rw [HSh.out] at cS
  have hz3' := hb3.size
  have hz3 : w.heap.size < w3.heap.size := by omega
  obtain ⟨hc3, _⟩ := bcell hb3
  have q1 := (hc3 _ _ hz2).trans p1
  have q2 := (hc3 _ _ hz2).trans p2
  have q3 := (hc3 _ _ hz2).trans p3
  have q4 := (hc3 _ _ hz2).trans p4
  have hd1 := (World.cell?_alloc_lt w3 (.cells #[.int .u8 (T)] 5) ⟨w.heap.size, 1, none⟩ hz3).trans q1
  have hd3 := (World.cell?_alloc_lt w3 (.cells #[.int .u8 (T)] 5) ⟨w.heap.size, 3, none⟩ hz3).trans q3
  have hd4 := (World.cell?_alloc_lt w3 (.cells #[.int .u8 (T)] 5) ⟨w.heap.size, 4, none⟩ hz3).trans q4
  have hB3 : Below w.heap.size w w3 := (((Below.refl w.heap.size w).alloc (Nat.le_refl _) _).trans (hb2.mono (by simp))).trans (hb3.mono (by omega))
  go_wp2_with (first
      | (go_at_call 51; refine (refPut_any (some ⟨w3.heap.size, 0, none⟩) 1 1 [lowB (T + addF 0)] (n % 4294967296) 1 _ (by rw [show bs [lowB (T + addF 0)] = [.int .u8 (T)] from by rw [bs_lowB]; simp only [List.cons.injEq, Value.int.injEq, and_true, true_and]; rw [show addF 0 = 0 from rfl]; omega]; exact Sl.of_own (own_new w3 5 1 1 [.int .u8 (T)] rfl (by unfold maxLen; omega))) (by omega) (by omega) (by omega)).mono ?_; intro e w7 hgo; obtain ⟨A7, n7, c7, rfl, hc7, hs7, hb7⟩ := hgo.sl; have hB7 : Below w.heap.size w w7 := (hB3.alloc (by omega) _).trans (hb7.mono (by simp; omega))))
  refine bodyPost_ret (v := .tuple #[.slice A7 n7 c7, .int .i64 0]) (by simp [results, Tryd.results35, go_sem]) rfl ⟨A7, n7, c7, rfl, hc7, ?_, hB7⟩
  rw [putL_e (by omega)] at hs7
  simpa using hs7

set_option maxHeartbeats 1000000 in
theorem renc_10_0 (k : Nat) (a b n T : Int) (w : World) (hk : k < 43) (hT : opByte ((k : Int) + 1) = T) (hT0 : 0 ≤ T) (hT1 : T ≤ 100) (hSh : opShape ((k : Int) + 1) = 10) (ha0 : 0 ≤ a) (ha1 : a < 8) (hb0 : 0 ≤ b) (hb1 : b < 8) (hn : -2147483648 ≤ n ∧ n ≤ 2147483647) 
    (Hch : Hid (∀ w, Calls Tryd.prog 24 #[.agg #[.int .i64 ((k : Int) + 1), .int .i64 a, .int .i64 b, .int .i32 n, .int .i64 0]] w fun e w' => e = .returned (.int .i64 0) ∧ Below w.heap.size w w')) :
    Calls Tryd.prog 35 #[.agg #[.int .i64 ((k : Int) + 1), .int .i64 a, .int .i64 b, .int .i32 n, .int .i64 0]] w (GivesE w (lowB (T + addF 0) :: ([lowB a] ++ le (n % 4294967296) (4 : Int).toNat))) := by
  obtain ⟨i0, hi0, hk0, hk1, hk2⟩ := info_parts u8_info
  obtain ⟨hn0, hn1⟩ := hn
  skip
  have HT := Lib.hid hT
  have HSh := Lib.hid hSh
  clear hT hSh
  go_enter Tryd.func35, Tryd.ntmps35
  go_wp2_with (go_at_call 24; refine (Hch.out _).mono ?_; rintro e w2 ⟨rfl, hb2⟩; have hz2 : w.heap.size < w2.heap.size := (by have := hb2.size; simp at this; omega); obtain ⟨hc2, _⟩ := bcell hb2; have p0 : w2.cell? ⟨w.heap.size, 0, none⟩ = some (.int .i64 ((k : Int) + 1)) := (by rw [hc2 _ _ (by simp)]; exact (Blk.new w _ _).cell 0); have p1 : w2.cell? ⟨w.heap.size, 1, none⟩ = some (.int .i64 a) := (by rw [hc2 _ _ (by simp)]; exact (Blk.new w _ _).cell 1); have p2 : w2.cell? ⟨w.heap.size, 2, none⟩ = some (.int .i64 b) := (by rw [hc2 _ _ (by simp)]; exact (Blk.new w _ _).cell 2); have p3 : w2.cell? ⟨w.heap.size, 3, none⟩ = some (.int .i32 n) := (by rw [hc2 _ _ (by simp)]; exact (Blk.new w _ _).cell 3); have p4 : w2.cell? ⟨w.heap.size, 4, none⟩ = some (.int .i64 0) := (by rw [hc2 _ _ (by simp)]; exact (Blk.new w _ _).cell 4))
  refine wp_region_swap (ops' := refEnc4) (by kernel_rfl) ?_
  refine reg4 k w.heap.size _ _ _ _ _ _ _ _ _ _ _ _ w2 _ hk hz2 p0 ?_
  intro g x13 x14 x15 x16 x17 x18 w3 hb3 hg0 hg1 cB cS
  rw [HT.out] at cB
  rw [HSh.out] at cS
  have hz3' := hb3.size
  have hz3 : w.heap.size < w3.heap.size := by omega
  obtain ⟨hc3, _⟩ := bcell hb3
  have q1 := (hc3 _ _ hz2).trans p1
  have q2 := (hc3 _ _ hz2).trans p2
  have q3 := (hc3 _ _ hz2).trans p3
  have q4 := (hc3 _ _ hz2).trans p4
  have hd1 := (World.cell?_alloc_lt w3 (.cells #[.int .u8 (T)] 5) ⟨w.heap.size, 1, none⟩ hz3).trans q1
  have hd3 := (World.cell?_alloc_lt w3 (.cells #[.int .u8 (T)] 5) ⟨w.heap.size, 3, none⟩ hz3).trans q3
  have hd4 := (World.cell?_alloc_lt w3 (.cells #[.int .u8 (T)] 5) ⟨w.heap.size, 4, none⟩ hz3).trans q4
  have hB3 : Below w.heap.size w w3 := (((Below.refl w.heap.size w).alloc (Nat.le_refl _) _).trans (hb2.mono (by simp))).trans (hb3.mono (by omega))
  go_wp2_with fail
  have hwa : IntKind.u8.wrap a = a := by simp [IntKind.wrap, IntKind.bits, IntKind.signed]; omega
  have hwn : IntKind.u32.wrap n = n % 4294967296 := by simp [IntKind.wrap, IntKind.bits, IntKind.signed]
  refine held_start (ops' := refEnc26) (l0 := #[false, false, false, false, false, false, false, false, false, false, false]) (S := (fun w' => Below w3.heap.size (w3.alloc (.cells #[.int .u8 (T)] 5)) w' ∧ w'.cell? ⟨w.heap.size, 1, none⟩ = some (.int .i64 a) ∧ w'.cell? ⟨w.heap.size, 3, none⟩ = some (.int .i32 n) ∧ w'.cell? ⟨w.heap.size, 4, none⟩ = some (.int .i64 0))) (by kernel_rfl) (by kernel_rfl) (by kernel_rfl) (by kernel_rfl) ⟨(Below.refl _ _).drew, hd1, hd3, hd4⟩ (fun R hR => ?_)
  (refine held_take (v := ?_) (d := some 95) 0 (by kernel_rfl) (by kernel_rfl) rfl ?_ ?_
   rotate_left
   · intro w hSw
     conv in opOf _ _ => whnf
     (try dsimp only at hSw)
     go_simp
     try (with_reducible rfl)
   try simp only [Act.put, List.setIfInBounds_toArray, List.set_cons_zero, List.set_cons_succ])
  (refine held_take (v := ?_) (d := some 96) 1 (by kernel_rfl) (by kernel_rfl) rfl ?_ ?_
   rotate_left
   · intro w hSw
     conv in opOf _ _ => whnf
     (try dsimp only at hSw)
     go_simp
     try (with_reducible rfl)
   try simp only [Act.put, List.setIfInBounds_toArray, List.set_cons_zero, List.set_cons_succ])
  (refine held_take (v := ?_) (d := some 97) 2 (by kernel_rfl) (by kernel_rfl) rfl ?_ ?_
   rotate_left
   · intro w hSw
     conv in opOf _ _ => whnf
     (try dsimp only at hSw)
     go_simp
     try (with_reducible rfl)
   try simp only [Act.put, List.setIfInBounds_toArray, List.set_cons_zero, List.set_cons_succ])
  (refine held_take (v := ?_) (d := some 98) 3 (by kernel_rfl) (by kernel_rfl) rfl ?_ ?_
   rotate_left
   · intro w hSw
     conv in opOf _ _ => whnf
     (try dsimp only at hSw)
     go_simp
     try simp only [hwa]
     try (with_reducible rfl)
   try simp only [Act.put, List.setIfInBounds_toArray, List.set_cons_zero, List.set_cons_succ])
  (refine held_take (v := ?_) (d := some 101) 6 (by kernel_rfl) (by kernel_rfl) rfl ?_ ?_
   rotate_left
   · intro w hSw
     conv in opOf _ _ => whnf
     (try dsimp only at hSw)
     go_simp
     try (with_reducible rfl)
   try simp only [Act.put, List.setIfInBounds_toArray, List.set_cons_zero, List.set_cons_succ])
  (refine held_take (v := ?_) (d := some 102) 7 (by kernel_rfl) (by kernel_rfl) rfl ?_ ?_
   rotate_left
   · intro w hSw
     conv in opOf _ _ => whnf
     (try dsimp only at hSw)
     go_simp
     try (with_reducible rfl)
   try simp only [Act.put, List.setIfInBounds_toArray, List.set_cons_zero, List.set_cons_succ])
  (refine held_take (v := ?_) (d := some 103) 8 (by kernel_rfl) (by kernel_rfl) rfl ?_ ?_
   rotate_left
   · intro w hSw
     conv in opOf _ _ => whnf
     (try dsimp only at hSw)
     go_simp
     try simp only [hwn]
     try (with_reducible rfl)
   try simp only [Act.put, List.setIfInBounds_toArray, List.set_cons_zero, List.set_cons_succ])
  (refine held_one 4 (by kernel_rfl) (by kernel_rfl) (held_run (v := ?_) (w' := ?_) (d := some 99) 4 (by kernel_rfl) (by kernel_rfl) rfl ?_ ?_)
   rotate_left 2
   · intro hSw
     conv in opOf _ _ => whnf
     go_simp
     first | done | (with_reducible rfl) | (constructor <;> with_reducible rfl)
   intro hS
   refine ⟨keepI hS hz3 ((Below.refl _ _).alloc (by simp) _), ?_⟩
   try simp only [Act.put, List.setIfInBounds_toArray, List.set_cons_zero, List.set_cons_succ])
  (refine held_one 5 (by kernel_rfl) (by kernel_rfl) (held_app (d := some 100) 5 (by kernel_rfl) (by kernel_rfl) rfl (.tmp 95) (.tmp 99) 55 (by kernel_rfl) w3.heap.size 5 i0 _ 1 1 Tryd.underlying55 hi0 hk0 hk1 hk2 rfl (by omega) (.slice (some ⟨w3.heap.size, 0, none⟩) 1 1) 1 [.int .u8 (T)] (by kernel_rfl) ((own_new w3 5 1 1 [.int .u8 (T)] rfl (by unfold maxLen; omega)).alloc _) (w3.heap.size + 2) (some ⟨w3.heap.size + 1, 0, none⟩) 1 1 [.int .u8 a] (by kernel_rfl) (Sl.drew (by have := sl_new (w3.alloc (.cells #[.int .u8 (T)] 5)) [.int .u8 a] 1 1 rfl 5; simpa using this)) (by intro u hu; simp at hu; subst hu; rfl) (by unfold maxLen; omega) (by omega) (by simp; omega) 2 rfl (bs (lowB (T + addF 0) :: [lowB a])) (by rw [show addF 0 = 0 from rfl]; simp only [bs, List.map_cons, List.map_nil, lowB_toNat, List.cons_append, List.nil_append]; simp only [List.cons.injEq, Value.int.injEq, true_and, and_true]; omega) ?_)
   intro A6 c6 w6 hS hc6 hown6 hg6
   have hown5 : World.ownsRow ((w3.alloc (.cells #[.int .u8 (T)] 5)).alloc (.cells #[.int .u8 a] 5)).drew w3.heap.size 5 1 (.slice (some ⟨w3.heap.size, 0, none⟩) 1 1) 1 [.int .u8 (T)] := (own_new w3 5 1 1 [.int .u8 (T)] rfl (by unfold maxLen; omega)).alloc _
   have hb6 := below_app (Below.refl _ _) hown5 hg6 (by show w3.heap.size ≤ ((w3.alloc _).alloc _).heap.size; simp; omega)
   have hz6 := (hS.1.trans hb6).size
   simp at hz6
   refine ⟨keepI hS hz3 hb6, ?_⟩
   try simp only [Act.put, List.setIfInBounds_toArray, List.set_cons_zero, List.set_cons_succ])
  (refine held_one 9 (by kernel_rfl) (by kernel_rfl) (held_callE (d := some 104) 9 (by kernel_rfl) (by kernel_rfl) rfl (fun hS => refPut_E A6 2 c6 (lowB (T + addF 0) :: [lowB a]) (n % 4294967296) 4 _ (Sl.of_own hown6) (by omega) (by omega) (by omega)) (by kernel_rfl) ?_)
   rintro V w7 hS ⟨A7, n7, c7, rfl, hc7, hs7, hb7⟩
   refine ⟨keepI hS hz3 (hb7.mono (by omega)), ?_⟩
   try simp only [Act.put, List.setIfInBounds_toArray, List.set_cons_zero, List.set_cons_succ])
  (refine held_take (v := ?_) (d := some 7) 10 (by kernel_rfl) (by kernel_rfl) rfl ?_ ?_
   rotate_left
   · intro w hSw
     conv in opOf _ _ => whnf
     (try dsimp only at hSw)
     go_simp
     try (with_reducible rfl)
   try simp only [Act.put, List.setIfInBounds_toArray, List.set_cons_zero, List.set_cons_succ])
  refine held_done (by kernel_rfl) (fun hS => hR.out _ _ ?_)
  have hB7 : Below w.heap.size w w7 := (hB3.alloc (by omega) _).trans (hS.1.mono (by omega))
  go_wp2_with fail
  refine bodyPost_ret (v := .tuple #[.slice A7 n7 c7, .int .i64 0]) (by simp [results, Tryd.results35, go_sem]) rfl ⟨A7, n7, c7, rfl, hc7, ?_, hB7⟩
  rw [putL_e (by omega)] at hs7
  simpa using hs7

set_option maxHeartbeats 1000000 in
theorem renc_11_0 (k : Nat) (a b n T : Int) (w : World) (hk : k < 43) (hT : opByte ((k : Int) + 1) = T) (hT0 : 0 ≤ T) (hT1 : T ≤ 100) (hSh : opShape ((k : Int) + 1) = 11) (ha0 : 0 ≤ a) (ha1 : a < 8) (hb0 : 0 ≤ b) (hb1 : b < 8) (hn : -2147483648 ≤ n ∧ n ≤ 2147483647) 
    (Hch : Hid (∀ w, Calls Tryd.prog 24 #[.agg #[.int .i64 ((k : Int) + 1), .int .i64 a, .int .i64 b, .int .i32 n, .int .i64 0]] w fun e w' => e = .returned (.int .i64 0) ∧ Below w.heap.size w w')) :
    Calls Tryd.prog 35 #[.agg #[.int .i64 ((k : Int) + 1), .int .i64 a, .int .i64 b, .int .i32 n, .int .i64 0]] w (GivesE w (lowB (T + addF 0) :: ([lowB a] ++ le (n % 4294967296) (2 : Int).toNat))) := by
  obtain ⟨i0, hi0, hk0, hk1, hk2⟩ := info_parts u8_info
  obtain ⟨hn0, hn1⟩ := hn
  skip
  have HT := Lib.hid hT
  have HSh := Lib.hid hSh
  clear hT hSh
  go_enter Tryd.func35, Tryd.ntmps35
  go_wp2_with (go_at_call 24; refine (Hch.out _).mono ?_; rintro e w2 ⟨rfl, hb2⟩; have hz2 : w.heap.size < w2.heap.size := (by have := hb2.size; simp at this; omega); obtain ⟨hc2, _⟩ := bcell hb2; have p0 : w2.cell? ⟨w.heap.size, 0, none⟩ = some (.int .i64 ((k : Int) + 1)) := (by rw [hc2 _ _ (by simp)]; exact (Blk.new w _ _).cell 0); have p1 : w2.cell? ⟨w.heap.size, 1, none⟩ = some (.int .i64 a) := (by rw [hc2 _ _ (by simp)]; exact (Blk.new w _ _).cell 1); have p2 : w2.cell? ⟨w.heap.size, 2, none⟩ = some (.int .i64 b) := (by rw [hc2 _ _ (by simp)]; exact (Blk.new w _ _).cell 2); have p3 : w2.cell? ⟨w.heap.size, 3, none⟩ = some (.int .i32 n) := (by rw [hc2 _ _ (by simp)]; exact (Blk.new w _ _).cell 3); have p4 : w2.cell? ⟨w.heap.size, 4, none⟩ = some (.int .i64 0) := (by rw [hc2 _ _ (by simp)]; exact (Blk.new w _ _).cell 4))
  refine wp_region_swap (ops' := refEnc4) (by kernel_rfl) ?_
  refine reg4 k w.heap.size _ _ _ _ _ _ _ _ _ _ _ _ w2 _ hk hz2 p0 ?_
  intro g x13 x14 x15 x16 x17 x18 w3 hb3 hg0 hg1 cB cS
  rw [HT.out] at cB
  rw [HSh.out] at cS
  have hz3' := hb3.size
  have hz3 : w.heap.size < w3.heap.size := by omega
  obtain ⟨hc3, _⟩ := bcell hb3
  have q1 := (hc3 _ _ hz2).trans p1
  have q2 := (hc3 _ _ hz2).trans p2
  have q3 := (hc3 _ _ hz2).trans p3
  have q4 := (hc3 _ _ hz2).trans p4
  have hd1 := (World.cell?_alloc_lt w3 (.cells #[.int .u8 (T)] 5) ⟨w.heap.size, 1, none⟩ hz3).trans q1
  have hd3 := (World.cell?_alloc_lt w3 (.cells #[.int .u8 (T)] 5) ⟨w.heap.size, 3, none⟩ hz3).trans q3
  have hd4 := (World.cell?_alloc_lt w3 (.cells #[.int .u8 (T)] 5) ⟨w.heap.size, 4, none⟩ hz3).trans q4
  have hB3 : Below w.heap.size w w3 := (((Below.refl w.heap.size w).alloc (Nat.le_refl _) _).trans (hb2.mono (by simp))).trans (hb3.mono (by omega))
  go_wp2_with fail
  have hwa : IntKind.u8.wrap a = a := by simp [IntKind.wrap, IntKind.bits, IntKind.signed]; omega
  have hwn : IntKind.u32.wrap n = n % 4294967296 := by simp [IntKind.wrap, IntKind.bits, IntKind.signed]
  refine held_start (ops' := refEnc28) (l0 := #[false, false, false, false, false, false, false, false, false, false, false]) (S := (fun w' => Below w3.heap.size (w3.alloc (.cells #[.int .u8 (T)] 5)) w' ∧ w'.cell? ⟨w.heap.size, 1, none⟩ = some (.int .i64 a) ∧ w'.cell? ⟨w.heap.size, 3, none⟩ = some (.int .i32 n) ∧ w'.cell? ⟨w.heap.size, 4, none⟩ = some (.int .i64 0))) (by kernel_rfl) (by kernel_rfl) (by kernel_rfl) (by kernel_rfl) ⟨(Below.refl _ _).drew, hd1, hd3, hd4⟩ (fun R hR => ?_)
  (refine held_take (v := ?_) (d := some 107) 0 (by kernel_rfl) (by kernel_rfl) rfl ?_ ?_
   rotate_left
   · intro w hSw
     conv in opOf _ _ => whnf
     (try dsimp only at hSw)
     go_simp
     try (with_reducible rfl)
   try simp only [Act.put, List.setIfInBounds_toArray, List.set_cons_zero, List.set_cons_succ])
  (refine held_take (v := ?_) (d := some 108) 1 (by kernel_rfl) (by kernel_rfl) rfl ?_ ?_
   rotate_left
   · intro w hSw
     conv in opOf _ _ => whnf
     (try dsimp only at hSw)
     go_simp
     try (with_reducible rfl)
   try simp only [Act.put, List.setIfInBounds_toArray, List.set_cons_zero, List.set_cons_succ])
  (refine held_take (v := ?_) (d := some 109) 2 (by kernel_rfl) (by kernel_rfl) rfl ?_ ?_
   rotate_left
   · intro w hSw
     conv in opOf _ _ => whnf
     (try dsimp only at hSw)
     go_simp
     try (with_reducible rfl)
   try simp only [Act.put, List.setIfInBounds_toArray, List.set_cons_zero, List.set_cons_succ])
  (refine held_take (v := ?_) (d := some 110) 3 (by kernel_rfl) (by kernel_rfl) rfl ?_ ?_
   rotate_left
   · intro w hSw
     conv in opOf _ _ => whnf
     (try dsimp only at hSw)
     go_simp
     try simp only [hwa]
     try (with_reducible rfl)
   try simp only [Act.put, List.setIfInBounds_toArray, List.set_cons_zero, List.set_cons_succ])
  (refine held_take (v := ?_) (d := some 113) 6 (by kernel_rfl) (by kernel_rfl) rfl ?_ ?_
   rotate_left
   · intro w hSw
     conv in opOf _ _ => whnf
     (try dsimp only at hSw)
     go_simp
     try (with_reducible rfl)
   try simp only [Act.put, List.setIfInBounds_toArray, List.set_cons_zero, List.set_cons_succ])
  (refine held_take (v := ?_) (d := some 114) 7 (by kernel_rfl) (by kernel_rfl) rfl ?_ ?_
   rotate_left
   · intro w hSw
     conv in opOf _ _ => whnf
     (try dsimp only at hSw)
     go_simp
     try (with_reducible rfl)
   try simp only [Act.put, List.setIfInBounds_toArray, List.set_cons_zero, List.set_cons_succ])
  (refine held_take (v := ?_) (d := some 115) 8 (by kernel_rfl) (by kernel_rfl) rfl ?_ ?_
   rotate_left
   · intro w hSw
     conv in opOf _ _ => whnf
     (try dsimp only at hSw)
     go_simp
     try simp only [hwn]
     try (with_reducible rfl)
   try simp only [Act.put, List.setIfInBounds_toArray, List.set_cons_zero, List.set_cons_succ])
  (refine held_one 4 (by kernel_rfl) (by kernel_rfl) (held_run (v := ?_) (w' := ?_) (d := some 111) 4 (by kernel_rfl) (by kernel_rfl) rfl ?_ ?_)
   rotate_left 2
   · intro hSw
     conv in opOf _ _ => whnf
     go_simp
     first | done | (with_reducible rfl) | (constructor <;> with_reducible rfl)
   intro hS
   refine ⟨keepI hS hz3 ((Below.refl _ _).alloc (by simp) _), ?_⟩
   try simp only [Act.put, List.setIfInBounds_toArray, List.set_cons_zero, List.set_cons_succ])
  (refine held_one 5 (by kernel_rfl) (by kernel_rfl) (held_app (d := some 112) 5 (by kernel_rfl) (by kernel_rfl) rfl (.tmp 107) (.tmp 111) 55 (by kernel_rfl) w3.heap.size 5 i0 _ 1 1 Tryd.underlying55 hi0 hk0 hk1 hk2 rfl (by omega) (.slice (some ⟨w3.heap.size, 0, none⟩) 1 1) 1 [.int .u8 (T)] (by kernel_rfl) ((own_new w3 5 1 1 [.int .u8 (T)] rfl (by unfold maxLen; omega)).alloc _) (w3.heap.size + 2) (some ⟨w3.heap.size + 1, 0, none⟩) 1 1 [.int .u8 a] (by kernel_rfl) (Sl.drew (by have := sl_new (w3.alloc (.cells #[.int .u8 (T)] 5)) [.int .u8 a] 1 1 rfl 5; simpa using this)) (by intro u hu; simp at hu; subst hu; rfl) (by unfold maxLen; omega) (by omega) (by simp; omega) 2 rfl (bs (lowB (T + addF 0) :: [lowB a])) (by rw [show addF 0 = 0 from rfl]; simp only [bs, List.map_cons, List.map_nil, lowB_toNat, List.cons_append, List.nil_append]; simp only [List.cons.injEq, Value.int.injEq, true_and, and_true]; omega) ?_)
   intro A6 c6 w6 hS hc6 hown6 hg6
   have hown5 : World.ownsRow ((w3.alloc (.cells #[.int .u8 (T)] 5)).alloc (.cells #[.int .u8 a] 5)).drew w3.heap.size 5 1 (.slice (some ⟨w3.heap.size, 0, none⟩) 1 1) 1 [.int .u8 (T)] := (own_new w3 5 1 1 [.int .u8 (T)] rfl (by unfold maxLen; omega)).alloc _
   have hb6 := below_app (Below.refl _ _) hown5 hg6 (by show w3.heap.size ≤ ((w3.alloc _).alloc _).heap.size; simp; omega)
   have hz6 := (hS.1.trans hb6).size
   simp at hz6
   refine ⟨keepI hS hz3 hb6, ?_⟩
   try simp only [Act.put, List.setIfInBounds_toArray, List.set_cons_zero, List.set_cons_succ])
  (refine held_one 9 (by kernel_rfl) (by kernel_rfl) (held_callE (d := some 116) 9 (by kernel_rfl) (by kernel_rfl) rfl (fun hS => refPut_E A6 2 c6 (lowB (T + addF 0) :: [lowB a]) (n % 4294967296) 2 _ (Sl.of_own hown6) (by omega) (by omega) (by omega)) (by kernel_rfl) ?_)
   rintro V w7 hS ⟨A7, n7, c7, rfl, hc7, hs7, hb7⟩
   refine ⟨keepI hS hz3 (hb7.mono (by omega)), ?_⟩
   try simp only [Act.put, List.setIfInBounds_toArray, List.set_cons_zero, List.set_cons_succ])
  (refine held_take (v := ?_) (d := some 7) 10 (by kernel_rfl) (by kernel_rfl) rfl ?_ ?_
   rotate_left
   · intro w hSw
     conv in opOf _ _ => whnf
     (try dsimp only at hSw)
     go_simp
     try (with_reducible rfl)
   try simp only [Act.put, List.setIfInBounds_toArray, List.set_cons_zero, List.set_cons_succ])
  refine held_done (by kernel_rfl) (fun hS => hR.out _ _ ?_)
  have hB7 : Below w.heap.size w w7 := (hB3.alloc (by omega) _).trans (hS.1.mono (by omega))
  go_wp2_with fail
  refine bodyPost_ret (v := .tuple #[.slice A7 n7 c7, .int .i64 0]) (by simp [results, Tryd.results35, go_sem]) rfl ⟨A7, n7, c7, rfl, hc7, ?_, hB7⟩
  rw [putL_e (by omega)] at hs7
  simpa using hs7

set_option maxHeartbeats 1000000 in
theorem renc_12_1 (k : Nat) (a b n T : Int) (w : World) (hk : k < 43) (hT : opByte ((k : Int) + 1) = T) (hT0 : 0 ≤ T) (hT1 : T ≤ 100) (hSh : opShape ((k : Int) + 1) = 12) (ha0 : 0 ≤ a) (ha1 : a < 8) (hb0 : 0 ≤ b) (hb1 : b < 8) (hn : -2147483648 ≤ n ∧ n ≤ 2147483647) 
    (Hch : Hid (∀ w, Calls Tryd.prog 24 #[.agg #[.int .i64 ((k : Int) + 1), .int .i64 a, .int .i64 b, .int .i32 n, .int .i64 1]] w fun e w' => e = .returned (.int .i64 0) ∧ Below w.heap.size w w')) :
    Calls Tryd.prog 35 #[.agg #[.int .i64 ((k : Int) + 1), .int .i64 a, .int .i64 b, .int .i32 n, .int .i64 1]] w (GivesE w (lowB (T + addF 1) :: ([] ++ le (n % 4294967296) (1 : Int).toNat))) := by
  obtain ⟨i0, hi0, hk0, hk1, hk2⟩ := info_parts u8_info
  obtain ⟨hn0, hn1⟩ := hn
  skip
  have HT := Lib.hid hT
  have HSh := Lib.hid hSh
  clear hT hSh
  go_enter Tryd.func35, Tryd.ntmps35
  go_wp2_with (go_at_call 24; refine (Hch.out _).mono ?_; rintro e w2 ⟨rfl, hb2⟩; have hz2 : w.heap.size < w2.heap.size := (by have := hb2.size; simp at this; omega); obtain ⟨hc2, _⟩ := bcell hb2; have p0 : w2.cell? ⟨w.heap.size, 0, none⟩ = some (.int .i64 ((k : Int) + 1)) := (by rw [hc2 _ _ (by simp)]; exact (Blk.new w _ _).cell 0); have p1 : w2.cell? ⟨w.heap.size, 1, none⟩ = some (.int .i64 a) := (by rw [hc2 _ _ (by simp)]; exact (Blk.new w _ _).cell 1); have p2 : w2.cell? ⟨w.heap.size, 2, none⟩ = some (.int .i64 b) := (by rw [hc2 _ _ (by simp)]; exact (Blk.new w _ _).cell 2); have p3 : w2.cell? ⟨w.heap.size, 3, none⟩ = some (.int .i32 n) := (by rw [hc2 _ _ (by simp)]; exact (Blk.new w _ _).cell 3); have p4 : w2.cell? ⟨w.heap.size, 4, none⟩ = some (.int .i64 1) := (by rw [hc2 _ _ (by simp)]; exact (Blk.new w _ _).cell 4))
  refine wp_region_swap (ops' := refEnc4) (by kernel_rfl) ?_
  refine reg4 k w.heap.size _ _ _ _ _ _ _ _ _ _ _ _ w2 _ hk hz2 p0 ?_
  intro g x13 x14 x15 x16 x17 x18 w3 hb3 hg0 hg1 cB cS
  rw [HT.out] at cB
  rw [HSh.out] at cS
  have hz3' := hb3.size
  have hz3 : w.heap.size < w3.heap.size := by omega
  obtain ⟨hc3, _⟩ := bcell hb3
  have q1 := (hc3 _ _ hz2).trans p1
  have q2 := (hc3 _ _ hz2).trans p2
  have q3 := (hc3 _ _ hz2).trans p3
  have q4 := (hc3 _ _ hz2).trans p4
  have hd1 := (World.cell?_alloc_lt w3 (.cells #[.int .u8 (T)] 5) ⟨w.heap.size, 1, none⟩ hz3).trans q1
  have hd3 := (World.cell?_alloc_lt w3 (.cells #[.int .u8 (T)] 5) ⟨w.heap.size, 3, none⟩ hz3).trans q3
  have hd4 := (World.cell?_alloc_lt w3 (.cells #[.int .u8 (T)] 5) ⟨w.heap.size, 4, none⟩ hz3).trans q4
  have hB3 : Below w.heap.size w w3 := (((Below.refl w.heap.size w).alloc (Nat.le_refl _) _).trans (hb2.mono (by simp))).trans (hb3.mono (by omega))
  go_wp2_with (first
      | (go_at_call 51; refine (refPut_any (some ⟨w3.heap.size, 0, none⟩) 1 1 [lowB (T + addF 1)] (n % 4294967296) 1 _ (by rw [show bs [lowB (T + addF 1)] = [.int .u8 (T)] from by rw [bs_lowB]; simp only [List.cons.injEq, Value.int.injEq, and_true, true_and]; rw [show addF 1 = 0 from rfl]; omega]; exact Sl.of_own (own_new w3 5 1 1 [.int .u8 (T)] rfl (by unfold maxLen; omega))) (by omega) (by omega) (by omega)).mono ?_; intro e w7 hgo; obtain ⟨A7, n7, c7, rfl, hc7, hs7, hb7⟩ := hgo.sl; have hB7 : Below w.heap.size w w7 := (hB3.alloc (by omega) _).trans (hb7.mono (by simp; omega))))
  refine bodyPost_ret (v := .tuple #[.slice A7 n7 c7, .int .i64 0]) (by simp [results, Tryd.results35, go_sem]) rfl ⟨A7, n7, c7, rfl, hc7, ?_, hB7⟩
  rw [putL_e (by omega)] at hs7
  simpa using hs7

set_option maxHeartbeats 1000000 in
theorem renc_12_2 (k : Nat) (a b n T : Int) (w : World) (hk : k < 43) (hT : opByte ((k : Int) + 1) = T) (hT0 : 0 ≤ T) (hT1 : T ≤ 100) (hSh : opShape ((k : Int) + 1) = 12) (ha0 : 0 ≤ a) (ha1 : a < 8) (hb0 : 0 ≤ b) (hb1 : b < 8) (hn : -2147483648 ≤ n ∧ n ≤ 2147483647) 
    (Hch : Hid (∀ w, Calls Tryd.prog 24 #[.agg #[.int .i64 ((k : Int) + 1), .int .i64 a, .int .i64 b, .int .i32 n, .int .i64 2]] w fun e w' => e = .returned (.int .i64 0) ∧ Below w.heap.size w w')) :
    Calls Tryd.prog 35 #[.agg #[.int .i64 ((k : Int) + 1), .int .i64 a, .int .i64 b, .int .i32 n, .int .i64 2]] w (GivesE w (lowB (T + addF 2) :: ([] ++ le (n % 4294967296) (2 : Int).toNat))) := by
  obtain ⟨i0, hi0, hk0, hk1, hk2⟩ := info_parts u8_info
  obtain ⟨hn0, hn1⟩ := hn
  skip
  have HT := Lib.hid hT
  have HSh := Lib.hid hSh
  clear hT hSh
  go_enter Tryd.func35, Tryd.ntmps35
  go_wp2_with (go_at_call 24; refine (Hch.out _).mono ?_; rintro e w2 ⟨rfl, hb2⟩; have hz2 : w.heap.size < w2.heap.size := (by have := hb2.size; simp at this; omega); obtain ⟨hc2, _⟩ := bcell hb2; have p0 : w2.cell? ⟨w.heap.size, 0, none⟩ = some (.int .i64 ((k : Int) + 1)) := (by rw [hc2 _ _ (by simp)]; exact (Blk.new w _ _).cell 0); have p1 : w2.cell? ⟨w.heap.size, 1, none⟩ = some (.int .i64 a) := (by rw [hc2 _ _ (by simp)]; exact (Blk.new w _ _).cell 1); have p2 : w2.cell? ⟨w.heap.size, 2, none⟩ = some (.int .i64 b) := (by rw [hc2 _ _ (by simp)]; exact (Blk.new w _ _).cell 2); have p3 : w2.cell? ⟨w.heap.size, 3, none⟩ = some (.int .i32 n) := (by rw [hc2 _ _ (by simp)]; exact (Blk.new w _ _).cell 3); have p4 : w2.cell? ⟨w.heap.size, 4, none⟩ = some (.int .i64 2) := (by rw [hc2 _ _ (by simp)]; exact (Blk.new w _ _).cell 4))
  refine wp_region_swap (ops' := refEnc4) (by kernel_rfl) ?_
  refine reg4 k w.heap.size _ _ _ _ _ _ _ _ _ _ _ _ w2 _ hk hz2 p0 ?_
  intro g x13 x14 x15 x16 x17 x18 w3 hb3 hg0 hg1 cB cS
  rw [HT.out] at cB
  rw [HSh.out] at cS
  have hz3' := hb3.size
  have hz3 : w.heap.size < w3.heap.size := by omega
  obtain ⟨hc3, _⟩ := bcell hb3
  have q1 := (hc3 _ _ hz2).trans p1
  have q2 := (hc3 _ _ hz2).trans p2
  have q3 := (hc3 _ _ hz2).trans p3
  have q4 := (hc3 _ _ hz2).trans p4
  have hd1 := (World.cell?_alloc_lt w3 (.cells #[.int .u8 (T + 1)] 5) ⟨w.heap.size, 1, none⟩ hz3).trans q1
  have hd3 := (World.cell?_alloc_lt w3 (.cells #[.int .u8 (T + 1)] 5) ⟨w.heap.size, 3, none⟩ hz3).trans q3
  have hd4 := (World.cell?_alloc_lt w3 (.cells #[.int .u8 (T + 1)] 5) ⟨w.heap.size, 4, none⟩ hz3).trans q4
  have hB3 : Below w.heap.size w w3 := (((Below.refl w.heap.size w).alloc (Nat.le_refl _) _).trans (hb2.mono (by simp))).trans (hb3.mono (by omega))
  go_wp2_with (first
      | (go_at_call 51; refine (refPut_any (some ⟨w3.heap.size, 0, none⟩) 1 1 [lowB (T + addF 2)] (n % 4294967296) 2 _ (by rw [show bs [lowB (T + addF 2)] = [.int .u8 (T + 1)] from by rw [bs_lowB]; simp only [List.cons.injEq, Value.int.injEq, and_true, true_and]; rw [show addF 2 = 1 from rfl]; omega]; exact Sl.of_own (own_new w3 5 1 1 [.int .u8 (T + 1)] rfl (by unfold maxLen; omega))) (by omega) (by omega) (by omega)).mono ?_; intro e w7 hgo; obtain ⟨A7, n7, c7, rfl, hc7, hs7, hb7⟩ := hgo.sl; have hB7 : Below w.heap.size w w7 := (hB3.alloc (by omega) _).trans (hb7.mono (by simp; omega))))
  refine bodyPost_ret (v := .tuple #[.slice A7 n7 c7, .int .i64 0]) (by simp [results, Tryd.results35, go_sem]) rfl ⟨A7, n7, c7, rfl, hc7, ?_, hB7⟩
  rw [putL_e (by omega)] at hs7
  simpa using hs7

set_option maxHeartbeats 1000000 in
theorem renc_12_4 (k : Nat) (a b n T : Int) (w : World) (hk : k < 43) (hT : opByte ((k : Int) + 1) = T) (hT0 : 0 ≤ T) (hT1 : T ≤ 100) (hSh : opShape ((k : Int) + 1) = 12) (ha0 : 0 ≤ a) (ha1 : a < 8) (hb0 : 0 ≤ b) (hb1 : b < 8) (hn : -2147483648 ≤ n ∧ n ≤ 2147483647) 
    (Hch : Hid (∀ w, Calls Tryd.prog 24 #[.agg #[.int .i64 ((k : Int) + 1), .int .i64 a, .int .i64 b, .int .i32 n, .int .i64 4]] w fun e w' => e = .returned (.int .i64 0) ∧ Below w.heap.size w w')) :
    Calls Tryd.prog 35 #[.agg #[.int .i64 ((k : Int) + 1), .int .i64 a, .int .i64 b, .int .i32 n, .int .i64 4]] w (GivesE w (lowB (T + addF 4) :: ([] ++ le (n % 4294967296) (4 : Int).toNat))) := by
  obtain ⟨i0, hi0, hk0, hk1, hk2⟩ := info_parts u8_info
  obtain ⟨hn0, hn1⟩ := hn
  skip
  have HT := Lib.hid hT
  have HSh := Lib.hid hSh
  clear hT hSh
  go_enter Tryd.func35, Tryd.ntmps35
  go_wp2_with (go_at_call 24; refine (Hch.out _).mono ?_; rintro e w2 ⟨rfl, hb2⟩; have hz2 : w.heap.size < w2.heap.size := (by have := hb2.size; simp at this; omega); obtain ⟨hc2, _⟩ := bcell hb2; have p0 : w2.cell? ⟨w.heap.size, 0, none⟩ = some (.int .i64 ((k : Int) + 1)) := (by rw [hc2 _ _ (by simp)]; exact (Blk.new w _ _).cell 0); have p1 : w2.cell? ⟨w.heap.size, 1, none⟩ = some (.int .i64 a) := (by rw [hc2 _ _ (by simp)]; exact (Blk.new w _ _).cell 1); have p2 : w2.cell? ⟨w.heap.size, 2, none⟩ = some (.int .i64 b) := (by rw [hc2 _ _ (by simp)]; exact (Blk.new w _ _).cell 2); have p3 : w2.cell? ⟨w.heap.size, 3, none⟩ = some (.int .i32 n) := (by rw [hc2 _ _ (by simp)]; exact (Blk.new w _ _).cell 3); have p4 : w2.cell? ⟨w.heap.size, 4, none⟩ = some (.int .i64 4) := (by rw [hc2 _ _ (by simp)]; exact (Blk.new w _ _).cell 4))
  refine wp_region_swap (ops' := refEnc4) (by kernel_rfl) ?_
  refine reg4 k w.heap.size _ _ _ _ _ _ _ _ _ _ _ _ w2 _ hk hz2 p0 ?_
  intro g x13 x14 x15 x16 x17 x18 w3 hb3 hg0 hg1 cB cS
  rw [HT.out] at cB
  rw [HSh.out] at cS
  have hz3' := hb3.size
  have hz3 : w.heap.size < w3.heap.size := by omega
  obtain ⟨hc3, _⟩ := bcell hb3
  have q1 := (hc3 _ _ hz2).trans p1
  have q2 := (hc3 _ _ hz2).trans p2
  have q3 := (hc3 _ _ hz2).trans p3
  have q4 := (hc3 _ _ hz2).trans p4
  have hd1 := (World.cell?_alloc_lt w3 (.cells #[.int .u8 (T + 2)] 5) ⟨w.heap.size, 1, none⟩ hz3).trans q1
  have hd3 := (World.cell?_alloc_lt w3 (.cells #[.int .u8 (T + 2)] 5) ⟨w.heap.size, 3, none⟩ hz3).trans q3
  have hd4 := (World.cell?_alloc_lt w3 (.cells #[.int .u8 (T + 2)] 5) ⟨w.heap.size, 4, none⟩ hz3).trans q4
  have hB3 : Below w.heap.size w w3 := (((Below.refl w.heap.size w).alloc (Nat.le_refl _) _).trans (hb2.mono (by simp))).trans (hb3.mono (by omega))
  go_wp2_with (first
      | (go_at_call 51; refine (refPut_any (some ⟨w3.heap.size, 0, none⟩) 1 1 [lowB (T + addF 4)] (n % 4294967296) 4 _ (by rw [show bs [lowB (T + addF 4)] = [.int .u8 (T + 2)] from by rw [bs_lowB]; simp only [List.cons.injEq, Value.int.injEq, and_true, true_and]; rw [show addF 4 = 2 from rfl]; omega]; exact Sl.of_own (own_new w3 5 1 1 [.int .u8 (T + 2)] rfl (by unfold maxLen; omega))) (by omega) (by omega) (by omega)).mono ?_; intro e w7 hgo; obtain ⟨A7, n7, c7, rfl, hc7, hs7, hb7⟩ := hgo.sl; have hB7 : Below w.heap.size w w7 := (hB3.alloc (by omega) _).trans (hb7.mono (by simp; omega))))
  refine bodyPost_ret (v := .tuple #[.slice A7 n7 c7, .int .i64 0]) (by simp [results, Tryd.results35, go_sem]) rfl ⟨A7, n7, c7, rfl, hc7, ?_, hB7⟩
  rw [putL_e (by omega)] at hs7
  simpa using hs7

set_option maxHeartbeats 1000000 in
theorem renc_13_1 (k : Nat) (a b n T : Int) (w : World) (hk : k < 43) (hT : opByte ((k : Int) + 1) = T) (hT0 : 0 ≤ T) (hT1 : T ≤ 100) (hSh : opShape ((k : Int) + 1) = 13) (ha0 : 0 ≤ a) (ha1 : a < 8) (hb0 : 0 ≤ b) (hb1 : b < 8) (hn : -2147483648 ≤ n ∧ n ≤ 2147483647) 
    (Hch : Hid (∀ w, Calls Tryd.prog 24 #[.agg #[.int .i64 ((k : Int) + 1), .int .i64 a, .int .i64 b, .int .i32 n, .int .i64 1]] w fun e w' => e = .returned (.int .i64 0) ∧ Below w.heap.size w w')) :
    Calls Tryd.prog 35 #[.agg #[.int .i64 ((k : Int) + 1), .int .i64 a, .int .i64 b, .int .i32 n, .int .i64 1]] w (GivesE w (lowB (T + addF 1) :: ([lowB a] ++ le (n % 4294967296) (1 : Int).toNat))) := by
  obtain ⟨i0, hi0, hk0, hk1, hk2⟩ := info_parts u8_info
  obtain ⟨hn0, hn1⟩ := hn
  skip
  have HT := Lib.hid hT
  have HSh := Lib.hid hSh
  clear hT hSh
  go_enter Tryd.func35, Tryd.ntmps35
  go_wp2_with (go_at_call 24; refine (Hch.out _).mono ?_; rintro e w2 ⟨rfl, hb2⟩; have hz2 : w.heap.size < w2.heap.size := (by have := hb2.size; simp at this; omega); obtain ⟨hc2, _⟩ := bcell hb2; have p0 : w2.cell? ⟨w.heap.size, 0, none⟩ = some (.int .i64 ((k : Int) + 1)) := (by rw [hc2 _ _ (by simp)]; exact (Blk.new w _ _).cell 0); have p1 : w2.cell? ⟨w.heap.size, 1, none⟩ = some (.int .i64 a) := (by rw [hc2 _ _ (by simp)]; exact (Blk.new w _ _).cell 1); have p2 : w2.cell? ⟨w.heap.size, 2, none⟩ = some (.int .i64 b) := (by rw [hc2 _ _ (by simp)]; exact (Blk.new w _ _).cell 2); have p3 : w2.cell? ⟨w.heap.size, 3, none⟩ = some (.int .i32 n) := (by rw [hc2 _ _ (by simp)]; exact (Blk.new w _ _).cell 3); have p4 : w2.cell? ⟨w.heap.size, 4, none⟩ = some (.int .i64 1) := (by rw [hc2 _ _ (by simp)]; exact (Blk.new w _ _).cell 4))
  refine wp_region_swap (ops' := refEnc4) (by kernel_rfl) ?_
  refine reg4 k w.heap.size _ _ _ _ _ _ _ _ _ _ _ _ w2 _ hk hz2 p0 ?_
  intro g x13 x14 x15 x16 x17 x18 w3 hb3 hg0 hg1 cB cS
  rw [HT.out] at cB
  rw [HSh.out] at cS
  have hz3' := hb3.size
  have hz3 : w.heap.size < w3.heap.size := by omega
  obtain ⟨hc3, _⟩ := bcell hb3
  have q1 := (hc3 _ _ hz2).trans p1
  have q2 := (hc3 _ _ hz2).trans p2
  have q3 := (hc3 _ _ hz2).trans p3
  have q4 := (hc3 _ _ hz2).trans p4
  have hd1 := (World.cell?_alloc_lt w3 (.cells #[.int .u8 (T)] 5) ⟨w.heap.size, 1, none⟩ hz3).trans q1
  have hd3 := (World.cell?_alloc_lt w3 (.cells #[.int .u8 (T)] 5) ⟨w.heap.size, 3, none⟩ hz3).trans q3
  have hd4 := (World.cell?_alloc_lt w3 (.cells #[.int .u8 (T)] 5) ⟨w.heap.size, 4, none⟩ hz3).trans q4
  have hB3 : Below w.heap.size w w3 := (((Below.refl w.heap.size w).alloc (Nat.le_refl _) _).trans (hb2.mono (by simp))).trans (hb3.mono (by omega))
  go_wp2_with fail
  have hwa : IntKind.u8.wrap a = a := by simp [IntKind.wrap, IntKind.bits, IntKind.signed]; omega
  have hwn : IntKind.u32.wrap n = n % 4294967296 := by simp [IntKind.wrap, IntKind.bits, IntKind.signed]
  refine held_start (ops' := refEnc32) (l0 := #[false, false, false, false, false, false, false, false, false, false, false, false, false]) (S := (fun w' => Below w3.heap.size (w3.alloc (.cells #[.int .u8 (T)] 5)) w' ∧ w'.cell? ⟨w.heap.size, 1, none⟩ = some (.int .i64 a) ∧ w'.cell? ⟨w.heap.size, 3, none⟩ = some (.int .i32 n) ∧ w'.cell? ⟨w.heap.size, 4, none⟩ = some (.int .i64 1))) (by kernel_rfl) (by kernel_rfl) (by kernel_rfl) (by kernel_rfl) ⟨(Below.refl _ _).drew, hd1, hd3, hd4⟩ (fun R hR => ?_)
  (refine held_take (v := ?_) (d := some 128) 0 (by kernel_rfl) (by kernel_rfl) rfl ?_ ?_
   rotate_left
   · intro w hSw
     conv in opOf _ _ => whnf
     (try dsimp only at hSw)
     go_simp
     try (with_reducible rfl)
   try simp only [Act.put, List.setIfInBounds_toArray, List.set_cons_zero, List.set_cons_succ])
  (refine held_take (v := ?_) (d := some 129) 1 (by kernel_rfl) (by kernel_rfl) rfl ?_ ?_
   rotate_left
   · intro w hSw
     conv in opOf _ _ => whnf
     (try dsimp only at hSw)
     go_simp
     try (with_reducible rfl)
   try simp only [Act.put, List.setIfInBounds_toArray, List.set_cons_zero, List.set_cons_succ])
  (refine held_take (v := ?_) (d := some 130) 2 (by kernel_rfl) (by kernel_rfl) rfl ?_ ?_
   rotate_left
   · intro w hSw
     conv in opOf _ _ => whnf
     (try dsimp only at hSw)
     go_simp
     try (with_reducible rfl)
   try simp only [Act.put, List.setIfInBounds_toArray, List.set_cons_zero, List.set_cons_succ])
  (refine held_take (v := ?_) (d := some 131) 3 (by kernel_rfl) (by kernel_rfl) rfl ?_ ?_
   rotate_left
   · intro w hSw
     conv in opOf _ _ => whnf
     (try dsimp only at hSw)
     go_simp
     try simp only [hwa]
     try (with_reducible rfl)
   try simp only [Act.put, List.setIfInBounds_toArray, List.set_cons_zero, List.set_cons_succ])
  (refine held_take (v := ?_) (d := some 134) 6 (by kernel_rfl) (by kernel_rfl) rfl ?_ ?_
   rotate_left
   · intro w hSw
     conv in opOf _ _ => whnf
     (try dsimp only at hSw)
     go_simp
     try (with_reducible rfl)
   try simp only [Act.put, List.setIfInBounds_toArray, List.set_cons_zero, List.set_cons_succ])
  (refine held_take (v := ?_) (d := some 135) 7 (by kernel_rfl) (by kernel_rfl) rfl ?_ ?_
   rotate_left
   · intro w hSw
     conv in opOf _ _ => whnf
     (try dsimp only at hSw)
     go_simp
     try (with_reducible rfl)
   try simp only [Act.put, List.setIfInBounds_toArray, List.set_cons_zero, List.set_cons_succ])
  (refine held_take (v := ?_) (d := some 136) 8 (by kernel_rfl) (by kernel_rfl) rfl ?_ ?_
   rotate_left
   · intro w hSw
     conv in opOf _ _ => whnf
     (try dsimp only at hSw)
     go_simp
     try simp only [hwn]
     try (with_reducible rfl)
   try simp only [Act.put, List.setIfInBounds_toArray, List.set_cons_zero, List.set_cons_succ])
  (refine held_take (v := ?_) (d := some 137) 9 (by kernel_rfl) (by kernel_rfl) rfl ?_ ?_
   rotate_left
   · intro w hSw
     conv in opOf _ _ => whnf
     (try dsimp only at hSw)
     go_simp
     try (with_reducible rfl)
   try simp only [Act.put, List.setIfInBounds_toArray, List.set_cons_zero, List.set_cons_succ])
  (refine held_take (v := ?_) (d := some 138) 10 (by kernel_rfl) (by kernel_rfl) rfl ?_ ?_
   rotate_left
   · intro w hSw
     conv in opOf _ _ => whnf
     (try dsimp only at hSw)
     go_simp
     try (with_reducible rfl)
   try simp only [Act.put, List.setIfInBounds_toArray, List.set_cons_zero, List.set_cons_succ])
  (refine held_one 4 (by kernel_rfl) (by kernel_rfl) (held_run (v := ?_) (w' := ?_) (d := some 132) 4 (by kernel_rfl) (by kernel_rfl) rfl ?_ ?_)
   rotate_left 2
   · intro hSw
     conv in opOf _ _ => whnf
     go_simp
     first | done | (with_reducible rfl) | (constructor <;> with_reducible rfl)
   intro hS
   refine ⟨keepI hS hz3 ((Below.refl _ _).alloc (by simp) _), ?_⟩
   try simp only [Act.put, List.setIfInBounds_toArray, List.set_cons_zero, List.set_cons_succ])
  (refine held_one 5 (by kernel_rfl) (by kernel_rfl) (held_app (d := some 133) 5 (by kernel_rfl) (by kernel_rfl) rfl (.tmp 128) (.tmp 132) 55 (by kernel_rfl) w3.heap.size 5 i0 _ 1 1 Tryd.underlying55 hi0 hk0 hk1 hk2 rfl (by omega) (.slice (some ⟨w3.heap.size, 0, none⟩) 1 1) 1 [.int .u8 (T)] (by kernel_rfl) ((own_new w3 5 1 1 [.int .u8 (T)] rfl (by unfold maxLen; omega)).alloc _) (w3.heap.size + 2) (some ⟨w3.heap.size + 1, 0, none⟩) 1 1 [.int .u8 a] (by kernel_rfl) (Sl.drew (by have := sl_new (w3.alloc (.cells #[.int .u8 (T)] 5)) [.int .u8 a] 1 1 rfl 5; simpa using this)) (by intro u hu; simp at hu; subst hu; rfl) (by unfold maxLen; omega) (by omega) (by simp; omega) 2 rfl (bs (lowB (T + addF 1) :: [lowB a])) (by rw [show addF 1 = 0 from rfl]; simp only [bs, List.map_cons, List.map_nil, lowB_toNat, List.cons_append, List.nil_append]; simp only [List.cons.injEq, Value.int.injEq, true_and, and_true]; omega) ?_)
   intro A6 c6 w6 hS hc6 hown6 hg6
   have hown5 : World.ownsRow ((w3.alloc (.cells #[.int .u8 (T)] 5)).alloc (.cells #[.int .u8 a] 5)).drew w3.heap.size 5 1 (.slice (some ⟨w3.heap.size, 0, none⟩) 1 1) 1 [.int .u8 (T)] := (own_new w3 5 1 1 [.int .u8 (T)] rfl (by unfold maxLen; omega)).alloc _
   have hb6 := below_app (Below.refl _ _) hown5 hg6 (by show w3.heap.size ≤ ((w3.alloc _).alloc _).heap.size; simp; omega)
   have hz6 := (hS.1.trans hb6).size
   simp at hz6
   refine ⟨keepI hS hz3 hb6, ?_⟩
   try simp only [Act.put, List.setIfInBounds_toArray, List.set_cons_zero, List.set_cons_succ])
  (refine held_one 11 (by kernel_rfl) (by kernel_rfl) (held_callE (d := some 139) 11 (by kernel_rfl) (by kernel_rfl) rfl (fun hS => refPut_E A6 2 c6 (lowB (T + addF 1) :: [lowB a]) (n % 4294967296) 1 _ (Sl.of_own hown6) (by omega) (by omega) (by omega)) (by kernel_rfl) ?_)
   rintro V w7 hS ⟨A7, n7, c7, rfl, hc7, hs7, hb7⟩
   refine ⟨keepI hS hz3 (hb7.mono (by omega)), ?_⟩
   try simp only [Act.put, List.setIfInBounds_toArray, List.set_cons_zero, List.set_cons_succ])
  (refine held_take (v := ?_) (d := some 7) 12 (by kernel_rfl) (by kernel_rfl) rfl ?_ ?_
   rotate_left
   · intro w hSw
     conv in opOf _ _ => whnf
     (try dsimp only at hSw)
     go_simp
     try (with_reducible rfl)
   try simp only [Act.put, List.setIfInBounds_toArray, List.set_cons_zero, List.set_cons_succ])
  refine held_done (by kernel_rfl) (fun hS => hR.out _ _ ?_)
  have hB7 : Below w.heap.size w w7 := (hB3.alloc (by omega) _).trans (hS.1.mono (by omega))
  go_wp2_with fail
  refine bodyPost_ret (v := .tuple #[.slice A7 n7 c7, .int .i64 0]) (by simp [results, Tryd.results35, go_sem]) rfl ⟨A7, n7, c7, rfl, hc7, ?_, hB7⟩
  rw [putL_e (by omega)] at hs7
  simpa using hs7

set_option maxHeartbeats 1000000 in
theorem renc_13_2 (k : Nat) (a b n T : Int) (w : World) (hk : k < 43) (hT : opByte ((k : Int) + 1) = T) (hT0 : 0 ≤ T) (hT1 : T ≤ 100) (hSh : opShape ((k : Int) + 1) = 13) (ha0 : 0 ≤ a) (ha1 : a < 8) (hb0 : 0 ≤ b) (hb1 : b < 8) (hn : -2147483648 ≤ n ∧ n ≤ 2147483647) 
    (Hch : Hid (∀ w, Calls Tryd.prog 24 #[.agg #[.int .i64 ((k : Int) + 1), .int .i64 a, .int .i64 b, .int .i32 n, .int .i64 2]] w fun e w' => e = .returned (.int .i64 0) ∧ Below w.heap.size w w')) :
    Calls Tryd.prog 35 #[.agg #[.int .i64 ((k : Int) + 1), .int .i64 a, .int .i64 b, .int .i32 n, .int .i64 2]] w (GivesE w (lowB (T + addF 2) :: ([lowB a] ++ le (n % 4294967296) (2 : Int).toNat))) := by
  obtain ⟨i0, hi0, hk0, hk1, hk2⟩ := info_parts u8_info
  obtain ⟨hn0, hn1⟩ := hn
  skip
  have HT := Lib.hid hT
  have HSh := Lib.hid hSh
  clear hT hSh
  go_enter Tryd.func35, Tryd.ntmps35
  go_wp2_with (go_at_call 24; refine (Hch.out _).mono ?_; rintro e w2 ⟨rfl, hb2⟩; have hz2 : w.heap.size < w2.heap.size := (by have := hb2.size; simp at this; omega); obtain ⟨hc2, _⟩ := bcell hb2; have p0 : w2.cell? ⟨w.heap.size, 0, none⟩ = some (.int .i64 ((k : Int) + 1)) := (by rw [hc2 _ _ (by simp)]; exact (Blk.new w _ _).cell 0); have p1 : w2.cell? ⟨w.heap.size, 1, none⟩ = some (.int .i64 a) := (by rw [hc2 _ _ (by simp)]; exact (Blk.new w _ _).cell 1); have p2 : w2.cell? ⟨w.heap.size, 2, none⟩ = some (.int .i64 b) := (by rw [hc2 _ _ (by simp)]; exact (Blk.new w _ _).cell 2); have p3 : w2.cell? ⟨w.heap.size, 3, none⟩ = some (.int .i32 n) := (by rw [hc2 _ _ (by simp)]; exact (Blk.new w _ _).cell 3); have p4 : w2.cell? ⟨w.heap.size, 4, none⟩ = some (.int .i64 2) := (by rw [hc2 _ _ (by simp)]; exact (Blk.new w _ _).cell 4))
  refine wp_region_swap (ops' := refEnc4) (by kernel_rfl) ?_
  refine reg4 k w.heap.size _ _ _ _ _ _ _ _ _ _ _ _ w2 _ hk hz2 p0 ?_
  intro g x13 x14 x15 x16 x17 x18 w3 hb3 hg0 hg1 cB cS
  rw [HT.out] at cB
  rw [HSh.out] at cS
  have hz3' := hb3.size
  have hz3 : w.heap.size < w3.heap.size := by omega
  obtain ⟨hc3, _⟩ := bcell hb3
  have q1 := (hc3 _ _ hz2).trans p1
  have q2 := (hc3 _ _ hz2).trans p2
  have q3 := (hc3 _ _ hz2).trans p3
  have q4 := (hc3 _ _ hz2).trans p4
  have hd1 := (World.cell?_alloc_lt w3 (.cells #[.int .u8 (T + 1)] 5) ⟨w.heap.size, 1, none⟩ hz3).trans q1
  have hd3 := (World.cell?_alloc_lt w3 (.cells #[.int .u8 (T + 1)] 5) ⟨w.heap.size, 3, none⟩ hz3).trans q3
  have hd4 := (World.cell?_alloc_lt w3 (.cells #[.int .u8 (T + 1)] 5) ⟨w.heap.size, 4, none⟩ hz3).trans q4
  have hB3 : Below w.heap.size w w3 := (((Below.refl w.heap.size w).alloc (Nat.le_refl _) _).trans (hb2.mono (by simp))).trans (hb3.mono (by omega))
  go_wp2_with fail
  have hwa : IntKind.u8.wrap a = a := by simp [IntKind.wrap, IntKind.bits, IntKind.signed]; omega
  have hwn : IntKind.u32.wrap n = n % 4294967296 := by simp [IntKind.wrap, IntKind.bits, IntKind.signed]
  refine held_start (ops' := refEnc32) (l0 := #[false, false, false, false, false, false, false, false, false, false, false, false, false]) (S := (fun w' => Below w3.heap.size (w3.alloc (.cells #[.int .u8 (T + 1)] 5)) w' ∧ w'.cell? ⟨w.heap.size, 1, none⟩ = some (.int .i64 a) ∧ w'.cell? ⟨w.heap.size, 3, none⟩ = some (.int .i32 n) ∧ w'.cell? ⟨w.heap.size, 4, none⟩ = some (.int .i64 2))) (by kernel_rfl) (by kernel_rfl) (by kernel_rfl) (by kernel_rfl) ⟨(Below.refl _ _).drew, hd1, hd3, hd4⟩ (fun R hR => ?_)
  (refine held_take (v := ?_) (d := some 128) 0 (by kernel_rfl) (by kernel_rfl) rfl ?_ ?_
   rotate_left
   · intro w hSw
     conv in opOf _ _ => whnf
     (try dsimp only at hSw)
     go_simp
     try (with_reducible rfl)
   try simp only [Act.put, List.setIfInBounds_toArray, List.set_cons_zero, List.set_cons_succ])
  (refine held_take (v := ?_) (d := some 129) 1 (by kernel_rfl) (by kernel_rfl) rfl ?_ ?_
   rotate_left
   · intro w hSw
     conv in opOf _ _ => whnf
     (try dsimp only at hSw)
     go_simp
     try (with_reducible rfl)
   try simp only [Act.put, List.setIfInBounds_toArray, List.set_cons_zero, List.set_cons_succ])
  (refine held_take (v := ?_) (d := some 130) 2 (by kernel_rfl) (by kernel_rfl) rfl ?_ ?_
   rotate_left
   · intro w hSw
     conv in opOf _ _ => whnf
     (try dsimp only at hSw)
     go_simp
     try (with_reducible rfl)
   try simp only [Act.put, List.setIfInBounds_toArray, List.set_cons_zero, List.set_cons_succ])
  (refine held_take (v := ?_) (d := some 131) 3 (by kernel_rfl) (by kernel_rfl) rfl ?_ ?_
   rotate_left
   · intro w hSw
     conv in opOf _ _ => whnf
     (try dsimp only at hSw)
     go_simp
     try simp only [hwa]
     try (with_reducible rfl)
   try simp only [Act.put, List.setIfInBounds_toArray, List.set_cons_zero, List.set_cons_succ])
  (refine held_take (v := ?_) (d := some 134) 6 (by kernel_rfl) (by kernel_rfl) rfl ?_ ?_
   rotate_left
   · intro w hSw
     conv in opOf _ _ => whnf
     (try dsimp only at hSw)
     go_simp
     try (with_reducible rfl)
   try simp only [Act.put, List.setIfInBounds_toArray, List.set_cons_zero, List.set_cons_succ])
  (refine held_take (v := ?_) (d := some 135) 7 (by kernel_rfl) (by kernel_rfl) rfl ?_ ?_
   rotate_left
   · intro w hSw
     conv in opOf _ _ => whnf
     (try dsimp only at hSw)
     go_simp
     try (with_reducible rfl)
   try simp only [Act.put, List.setIfInBounds_toArray, List.set_cons_zero, List.set_cons_succ])
  (refine held_take (v := ?_) (d := some 136) 8 (by kernel_rfl) (by kernel_rfl) rfl ?_ ?_
   rotate_left
   · intro w hSw
     conv in opOf _ _ => whnf
     (try dsimp only at hSw)
     go_simp
     try simp only [hwn]
     try (with_reducible rfl)
   try simp only [Act.put, List.setIfInBounds_toArray, List.set_cons_zero, List.set_cons_succ])
  (refine held_take (v := ?_) (d := some 137) 9 (by kernel_rfl) (by kernel_rfl) rfl ?_ ?_
   rotate_left
   · intro w hSw
     conv in opOf _ _ => whnf
     (try dsimp only at hSw)
     go_simp
     try (with_reducible rfl)
   try simp only [Act.put, List.setIfInBounds_toArray, List.set_cons_zero, List.set_cons_succ])
  (refine held_take (v := ?_) (d := some 138) 10 (by kernel_rfl) (by kernel_rfl) rfl ?_ ?_
   rotate_left
   · intro w hSw
     conv in opOf _ _ => whnf
     (try dsimp only at hSw)
     go_simp
     try (with_reducible rfl)
   try simp only [Act.put, List.setIfInBounds_toArray, List.set_cons_zero, List.set_cons_succ])
  (refine held_one 4 (by kernel_rfl) (by kernel_rfl) (held_run (v := ?_) (w' := ?_) (d := some 132) 4 (by kernel_rfl) (by kernel_rfl) rfl ?_ ?_)
   rotate_left 2
   · intro hSw
     conv in opOf _ _ => whnf
     go_simp
     first | done | (with_reducible rfl) | (constructor <;> with_reducible rfl)
   intro hS
   refine ⟨keepI hS hz3 ((Below.refl _ _).alloc (by simp) _), ?_⟩
   try simp only [Act.put, List.setIfInBounds_toArray, List.set_cons_zero, List.set_cons_succ])
  (refine held_one 5 (by kernel_rfl) (by kernel_rfl) (held_app (d := some 133) 5 (by kernel_rfl) (by kernel_rfl) rfl (.tmp 128) (.tmp 132) 55 (by kernel_rfl) w3.heap.size 5 i0 _ 1 1 Tryd.underlying55 hi0 hk0 hk1 hk2 rfl (by omega) (.slice (some ⟨w3.heap.size, 0, none⟩) 1 1) 1 [.int .u8 (T + 1)] (by kernel_rfl) ((own_new w3 5 1 1 [.int .u8 (T + 1)] rfl (by unfold maxLen; omega)).alloc _) (w3.heap.size + 2) (some ⟨w3.heap.size + 1, 0, none⟩) 1 1 [.int .u8 a] (by kernel_rfl) (Sl.drew (by have := sl_new (w3.alloc (.cells #[.int .u8 (T + 1)] 5)) [.int .u8 a] 1 1 rfl 5; simpa using this)) (by intro u hu; simp at hu; subst hu; rfl) (by unfold maxLen; omega) (by omega) (by simp; omega) 2 rfl (bs (lowB (T + addF 2) :: [lowB a])) (by rw [show addF 2 = 1 from rfl]; simp only [bs, List.map_cons, List.map_nil, lowB_toNat, List.cons_append, List.nil_append]; simp only [List.cons.injEq, Value.int.injEq, true_and, and_true]; omega) ?_)
   intro A6 c6 w6 hS hc6 hown6 hg6
   have hown5 : World.ownsRow ((w3.alloc (.cells #[.int .u8 (T + 1)] 5)).alloc (.cells #[.int .u8 a] 5)).drew w3.heap.size 5 1 (.slice (some ⟨w3.heap.size, 0, none⟩) 1 1) 1 [.int .u8 (T + 1)] := (own_new w3 5 1 1 [.int .u8 (T + 1)] rfl (by unfold maxLen; omega)).alloc _
   have hb6 := below_app (Below.refl _ _) hown5 hg6 (by show w3.heap.size ≤ ((w3.alloc _).alloc _).heap.size; simp; omega)
   have hz6 := (hS.1.trans hb6).size
   simp at hz6
   refine ⟨keepI hS hz3 hb6, ?_⟩
   try simp only [Act.put, List.setIfInBounds_toArray, List.set_cons_zero, List.set_cons_succ])
  (refine held_one 11 (by kernel_rfl) (by kernel_rfl) (held_callE (d := some 139) 11 (by kernel_rfl) (by kernel_rfl) rfl (fun hS => refPut_E A6 2 c6 (lowB (T + addF 2) :: [lowB a]) (n % 4294967296) 2 _ (Sl.of_own hown6) (by omega) (by omega) (by omega)) (by kernel_rfl) ?_)
   rintro V w7 hS ⟨A7, n7, c7, rfl, hc7, hs7, hb7⟩
   refine ⟨keepI hS hz3 (hb7.mono (by omega)), ?_⟩
   try simp only [Act.put, List.setIfInBounds_toArray, List.set_cons_zero, List.set_cons_succ])
  (refine held_take (v := ?_) (d := some 7) 12 (by kernel_rfl) (by kernel_rfl) rfl ?_ ?_
   rotate_left
   · intro w hSw
     conv in opOf _ _ => whnf
     (try dsimp only at hSw)
     go_simp
     try (with_reducible rfl)
   try simp only [Act.put, List.setIfInBounds_toArray, List.set_cons_zero, List.set_cons_succ])
  refine held_done (by kernel_rfl) (fun hS => hR.out _ _ ?_)
  have hB7 : Below w.heap.size w w7 := (hB3.alloc (by omega) _).trans (hS.1.mono (by omega))
  go_wp2_with fail
  refine bodyPost_ret (v := .tuple #[.slice A7 n7 c7, .int .i64 0]) (by simp [results, Tryd.results35, go_sem]) rfl ⟨A7, n7, c7, rfl, hc7, ?_, hB7⟩
  rw [putL_e (by omega)] at hs7
  simpa using hs7

set_option maxHeartbeats 1000000 in
theorem renc_13_4 (k : Nat) (a b n T : Int) (w : World) (hk : k < 43) (hT : opByte ((k : Int) + 1) = T) (hT0 : 0 ≤ T) (hT1 : T ≤ 100) (hSh : opShape ((k : Int) + 1) = 13) (ha0 : 0 ≤ a) (ha1 : a < 8) (hb0 : 0 ≤ b) (hb1 : b < 8) (hn : -2147483648 ≤ n ∧ n ≤ 2147483647) 
    (Hch : Hid (∀ w, Calls Tryd.prog 24 #[.agg #[.int .i64 ((k : Int) + 1), .int .i64 a, .int .i64 b, .int .i32 n, .int .i64 4]] w fun e w' => e = .returned (.int .i64 0) ∧ Below w.heap.size w w')) :
    Calls Tryd.prog 35 #[.agg #[.int .i64 ((k : Int) + 1), .int .i64 a, .int .i64 b, .int .i32 n, .int .i64 4]] w (GivesE w (lowB (T + addF 4) :: ([lowB a] ++ le (n % 4294967296) (4 : Int).toNat))) := by
  obtain ⟨i0, hi0, hk0, hk1, hk2⟩ := info_parts u8_info
  obtain ⟨hn0, hn1⟩ := hn
  skip
  have HT := Lib.hid hT
  have HSh := Lib.hid hSh
  clear hT hSh
  go_enter Tryd.func35, Tryd.ntmps35
  go_wp2_with (go_at_call 24; refine (Hch.out _).mono ?_; rintro e w2 ⟨rfl, hb2⟩; have hz2 : w.heap.size < w2.heap.size := (by have := hb2.size; simp at this; omega); obtain ⟨hc2, _⟩ := bcell hb2; have p0 : w2.cell? ⟨w.heap.size, 0, none⟩ = some (.int .i64 ((k : Int) + 1)) := (by rw [hc2 _ _ (by simp)]; exact (Blk.new w _ _).cell 0); have p1 : w2.cell? ⟨w.heap.size, 1, none⟩ = some (.int .i64 a) := (by rw [hc2 _ _ (by simp)]; exact (Blk.new w _ _).cell 1); have p2 : w2.cell? ⟨w.heap.size, 2, none⟩ = some (.int .i64 b) := (by rw [hc2 _ _ (by simp)]; exact (Blk.new w _ _).cell 2); have p3 : w2.cell? ⟨w.heap.size, 3, none⟩ = some (.int .i32 n) := (by rw [hc2 _ _ (by simp)]; exact (Blk.new w _ _).cell 3); have p4 : w2.cell? ⟨w.heap.size, 4, none⟩ = some (.int .i64 4) := (by rw [hc2 _ _ (by simp)]; exact (Blk.new w _ _).cell 4))
  refine wp_region_swap (ops' := refEnc4) (by kernel_rfl) ?_
  refine reg4 k w.heap.size _ _ _ _ _ _ _ _ _ _ _ _ w2 _ hk hz2 p0 ?_
  intro g x13 x14 x15 x16 x17 x18 w3 hb3 hg0 hg1 cB cS
  rw [HT.out] at cB
  rw [HSh.out] at cS
  have hz3' := hb3.size
  have hz3 : w.heap.size < w3.heap.size := by omega
  obtain ⟨hc3, _⟩ := bcell hb3
  have q1 := (hc3 _ _ hz2).trans p1
  have q2 := (hc3 _ _ hz2).trans p2
  have q3 := (hc3 _ _ hz2).trans p3
  have q4 := (hc3 _ _ hz2).trans p4
  have hd1 := (World.cell?_alloc_lt w3 (.cells #[.int .u8 (T + 2)] 5) ⟨w.heap.size, 1, none⟩ hz3).trans q1
  have hd3 := (World.cell?_alloc_lt w3 (.cells #[.int .u8 (T + 2)] 5) ⟨w.heap.size, 3, none⟩ hz3).trans q3
  have hd4 := (World.cell?_alloc_lt w3 (.cells #[.int .u8 (T + 2)] 5) ⟨w.heap.size, 4, none⟩ hz3).trans q4
  have hB3 : Below w.heap.size w w3 := (((Below.refl w.heap.size w).alloc (Nat.le_refl _) _).trans (hb2.mono (by simp))).trans (hb3.mono (by omega))
  go_wp2_with fail
  have hwa : IntKind.u8.wrap a = a := by simp [IntKind.wrap, IntKind.bits, IntKind.signed]; omega
  have hwn : IntKind.u32.wrap n = n % 4294967296 := by simp [IntKind.wrap, IntKind.bits, IntKind.signed]
  refine held_start (ops' := refEnc32) (l0 := #[false, false, false, false, false, false, false, false, false, false, false, false, false]) (S := (fun w' => Below w3.heap.size (w3.alloc (.cells #[.int .u8 (T + 2)] 5)) w' ∧ w'.cell? ⟨w.heap.size, 1, none⟩ = some (.int .i64 a) ∧ w'.cell? ⟨w.heap.size, 3, none⟩ = some (.int .i32 n) ∧ w'.cell? ⟨w.heap.size, 4, none⟩ = some (.int .i64 4))) (by kernel_rfl) (by kernel_rfl) (by kernel_rfl) (by kernel_rfl) ⟨(Below.refl _ _).drew, hd1, hd3, hd4⟩ (fun R hR => ?_)
  (refine held_take (v := ?_) (d := some 128) 0 (by kernel_rfl) (by kernel_rfl) rfl ?_ ?_
   rotate_left
   · intro w hSw
     conv in opOf _ _ => whnf
     (try dsimp only at hSw)
     go_simp
     try (with_reducible rfl)
   try simp only [Act.put, List.setIfInBounds_toArray, List.set_cons_zero, List.set_cons_succ])
  (refine held_take (v := ?_) (d := some 129) 1 (by kernel_rfl) (by kernel_rfl) rfl ?_ ?_
   rotate_left
   · intro w hSw
     conv in opOf _ _ => whnf
     (try dsimp only at hSw)
     go_simp
     try (with_reducible rfl)
   try simp only [Act.put, List.setIfInBounds_toArray, List.set_cons_zero, List.set_cons_succ])
  (refine held_take (v := ?_) (d := some 130) 2 (by kernel_rfl) (by kernel_rfl) rfl ?_ ?_
   rotate_left
   · intro w hSw
     conv in opOf _ _ => whnf
     (try dsimp only at hSw)
     go_simp
     try (with_reducible rfl)
   try simp only [Act.put, List.setIfInBounds_toArray, List.set_cons_zero, List.set_cons_succ])
  (refine held_take (v := ?_) (d := some 131) 3 (by kernel_rfl) (by kernel_rfl) rfl ?_ ?_
   rotate_left
   · intro w hSw
     conv in opOf _ _ => whnf
     (try dsimp only at hSw)
     go_simp
     try simp only [hwa]
     try (with_reducible rfl)
   try simp only [Act.put, List.setIfInBounds_toArray, List.set_cons_zero, List.set_cons_succ])
  (refine held_take (v := ?_) (d := some 134) 6 (by kernel_rfl) (by kernel_rfl) rfl ?_ ?_
   rotate_left
   · intro w hSw
     conv in opOf _ _ => whnf
     (try dsimp only at hSw)
     go_simp
     try (with_reducible rfl)
   try simp only [Act.put, List.setIfInBounds_toArray, List.set_cons_zero, List.set_cons_succ])
  (refine held_take (v := ?_) (d := some 135) 7 (by kernel_rfl) (by kernel_rfl) rfl ?_ ?_
   rotate_left
   · intro w hSw
     conv in opOf _ _ => whnf
     (try dsimp only at hSw)
     go_simp
     try (with_reducible rfl)
   try simp only [Act.put, List.setIfInBounds_toArray, List.set_cons_zero, List.set_cons_succ])
  (refine held_take (v := ?_) (d := some 136) 8 (by kernel_rfl) (by kernel_rfl) rfl ?_ ?_
   rotate_left
   · intro w hSw
     conv in opOf _ _ => whnf
     (try dsimp only at hSw)
     go_simp
     try simp only [hwn]
     try (with_reducible rfl)
   try simp only [Act.put, List.setIfInBounds_toArray, List.set_cons_zero, List.set_cons_succ])
  (refine held_take (v := ?_) (d := some 137) 9 (by kernel_rfl) (by kernel_rfl) rfl ?_ ?_
   rotate_left
   · intro w hSw
     conv in opOf _ _ => whnf
     (try dsimp only at hSw)
     go_simp
     try (with_reducible rfl)
   try simp only [Act.put, List.setIfInBounds_toArray, List.set_cons_zero, List.set_cons_succ])
  (refine held_take (v := ?_) (d := some 138) 10 (by kernel_rfl) (by kernel_rfl) rfl ?_ ?_
   rotate_left
   · intro w hSw
     conv in opOf _ _ => whnf
     (try dsimp only at hSw)
     go_simp
     try (with_reducible rfl)
   try simp only [Act.put, List.setIfInBounds_toArray, List.set_cons_zero, List.set_cons_succ])
  (refine held_one 4 (by kernel_rfl) (by kernel_rfl) (held_run (v := ?_) (w' := ?_) (d := some 132) 4 (by kernel_rfl) (by kernel_rfl) rfl ?_ ?_)
   rotate_left 2
   · intro hSw
     conv in opOf _ _ => whnf
     go_simp
     first | done | (with_reducible rfl) | (constructor <;> with_reducible rfl)
   intro hS
   refine ⟨keepI hS hz3 ((Below.refl _ _).alloc (by simp) _), ?_⟩
   try simp only [Act.put, List.setIfInBounds_toArray, List.set_cons_zero, List.set_cons_succ])
  (refine held_one 5 (by kernel_rfl) (by kernel_rfl) (held_app (d := some 133) 5 (by kernel_rfl) (by kernel_rfl) rfl (.tmp 128) (.tmp 132) 55 (by kernel_rfl) w3.heap.size 5 i0 _ 1 1 Tryd.underlying55 hi0 hk0 hk1 hk2 rfl (by omega) (.slice (some ⟨w3.heap.size, 0, none⟩) 1 1) 1 [.int .u8 (T + 2)] (by kernel_rfl) ((own_new w3 5 1 1 [.int .u8 (T + 2)] rfl (by unfold maxLen; omega)).alloc _) (w3.heap.size + 2) (some ⟨w3.heap.size + 1, 0, none⟩) 1 1 [.int .u8 a] (by kernel_rfl) (Sl.drew (by have := sl_new (w3.alloc (.cells #[.int .u8 (T + 2)] 5)) [.int .u8 a] 1 1 rfl 5; simpa using this)) (by intro u hu; simp at hu; subst hu; rfl) (by unfold maxLen; omega) (by omega) (by simp; omega) 2 rfl (bs (lowB (T + addF 4) :: [lowB a])) (by rw [show addF 4 = 2 from rfl]; simp only [bs, List.map_cons, List.map_nil, lowB_toNat, List.cons_append, List.nil_append]; simp only [List.cons.injEq, Value.int.injEq, true_and, and_true]; omega) ?_)
   intro A6 c6 w6 hS hc6 hown6 hg6
   have hown5 : World.ownsRow ((w3.alloc (.cells #[.int .u8 (T + 2)] 5)).alloc (.cells #[.int .u8 a] 5)).drew w3.heap.size 5 1 (.slice (some ⟨w3.heap.size, 0, none⟩) 1 1) 1 [.int .u8 (T + 2)] := (own_new w3 5 1 1 [.int .u8 (T + 2)] rfl (by unfold maxLen; omega)).alloc _
   have hb6 := below_app (Below.refl _ _) hown5 hg6 (by show w3.heap.size ≤ ((w3.alloc _).alloc _).heap.size; simp; omega)
   have hz6 := (hS.1.trans hb6).size
   simp at hz6
   refine ⟨keepI hS hz3 hb6, ?_⟩
   try simp only [Act.put, List.setIfInBounds_toArray, List.set_cons_zero, List.set_cons_succ])
  (refine held_one 11 (by kernel_rfl) (by kernel_rfl) (held_callE (d := some 139) 11 (by kernel_rfl) (by kernel_rfl) rfl (fun hS => refPut_E A6 2 c6 (lowB (T + addF 4) :: [lowB a]) (n % 4294967296) 4 _ (Sl.of_own hown6) (by omega) (by omega) (by omega)) (by kernel_rfl) ?_)
   rintro V w7 hS ⟨A7, n7, c7, rfl, hc7, hs7, hb7⟩
   refine ⟨keepI hS hz3 (hb7.mono (by omega)), ?_⟩
   try simp only [Act.put, List.setIfInBounds_toArray, List.set_cons_zero, List.set_cons_succ])
  (refine held_take (v := ?_) (d := some 7) 12 (by kernel_rfl) (by kernel_rfl) rfl ?_ ?_
   rotate_left
   · intro w hSw
     conv in opOf _ _ => whnf
     (try dsimp only at hSw)
     go_simp
     try (with_reducible rfl)
   try simp only [Act.put, List.setIfInBounds_toArray, List.set_cons_zero, List.set_cons_succ])
  refine held_done (by kernel_rfl) (fun hS => hR.out _ _ ?_)
  have hB7 : Below w.heap.size w w7 := (hB3.alloc (by omega) _).trans (hS.1.mono (by omega))
  go_wp2_with fail
  refine bodyPost_ret (v := .tuple #[.slice A7 n7 c7, .int .i64 0]) (by simp [results, Tryd.results35, go_sem]) rfl ⟨A7, n7, c7, rfl, hc7, ?_, hB7⟩
  rw [putL_e (by omega)] at hs7
  simpa using hs7

theorem refEnc_yes (op a b n f : Int) (w : World) (hn : -2147483648 ≤ n ∧ n ≤ 2147483647) (h : checkR op a b n f = 0) : Calls Tryd.prog 35 #[.agg #[.int .i64 op, .int .i64 a, .int .i64 b, .int .i32 n, .int .i64 f]] w (GivesE w (encR op a b n f)) := by
  obtain ⟨h1, h2, h3, h4⟩ := checkR_parts h
  obtain ⟨⟨ha0, ha1⟩, ⟨hb0, hb1⟩, hn7⟩ := regB_bounds h2
  have hff := checkR_forms h
  have hch : ∀ w, Calls Tryd.prog 24 #[.agg #[.int .i64 op, .int .i64 a, .int .i64 b, .int .i32 n, .int .i64 f]] w fun e w' => e = .returned (.int .i64 0) ∧ Below w.heap.size w w' := fun w => h ▸ refCheck_any op a b n f w hn
  have B1 := opByte_bounds op
  have hs13 : 1 ≤ opShape op ∧ opShape op ≤ 13 := (shape_bounds op).1 h1
  simp only [isOp, decide_eq_true_eq] at h1
  obtain ⟨k, rfl⟩ : ∃ k : Nat, op = (k : Int) + 1 := ⟨(op - 1).toNat, by omega⟩
  have hk : k < 43 := by omega
  clear h4 h3 h
  unfold encR
  obtain ⟨s, hs⟩ : ∃ s, s = opShape ((k : Int) + 1) := ⟨_, rfl⟩
  obtain ⟨T, hT⟩ : ∃ T, T = opByte ((k : Int) + 1) := ⟨_, rfl⟩
  rw [← hs] at hs13 hn7 hff ⊢
  rw [← hT] at B1 ⊢
  have hs' := hs.symm
  have hT' := hT.symm
  clear hs hT h2
  rcases thirteen hs13 with rfl | rfl | rfl | rfl | rfl | rfl | rfl | rfl | rfl | rfl | rfl | rfl | rfl <;> simp [formsOf] at hff
  · subst hff
    exact renc_1_0 k a b n T w hk hT' B1.1 B1.2 hs' ha0 ha1 hb0 hb1 hn (Lib.hid hch)
  · subst hff
    exact renc_2_0 k a b n T w hk hT' B1.1 B1.2 hs' ha0 ha1 hb0 hb1 hn (Lib.hid hch)
  · subst hff
    exact renc_3_0 k a b n T w hk hT' B1.1 B1.2 hs' ha0 ha1 hb0 hb1 hn (Lib.hid hch)
  · subst hff
    exact renc_4_0 k a b n T w hk hT' B1.1 B1.2 hs' ha0 ha1 hb0 hb1 hn (Lib.hid hch)
  · subst hff
    exact renc_5_0 k a b n T w hk hT' B1.1 B1.2 hs' ha0 ha1 hb0 hb1 hn (Lib.hid hch)
  · subst hff
    exact renc_6_0 k a b n T w hk hT' B1.1 B1.2 hs' ha0 ha1 hb0 hb1 hn (Lib.hid hch)
  · subst hff
    exact renc_7_0 k a b n T w hk hT' B1.1 B1.2 hs' ha0 ha1 hb0 hb1 hn (hn7 rfl) (Lib.hid hch)
  · subst hff
    exact renc_8_0 k a b n T w hk hT' B1.1 B1.2 hs' ha0 ha1 hb0 hb1 hn (Lib.hid hch)
  · subst hff
    exact renc_9_0 k a b n T w hk hT' B1.1 B1.2 hs' ha0 ha1 hb0 hb1 hn (Lib.hid hch)
  · subst hff
    exact renc_10_0 k a b n T w hk hT' B1.1 B1.2 hs' ha0 ha1 hb0 hb1 hn (Lib.hid hch)
  · subst hff
    exact renc_11_0 k a b n T w hk hT' B1.1 B1.2 hs' ha0 ha1 hb0 hb1 hn (Lib.hid hch)
  · rcases hff with rfl | rfl | rfl
    · exact renc_12_1 k a b n T w hk hT' B1.1 B1.2 hs' ha0 ha1 hb0 hb1 hn (Lib.hid hch)
    · exact renc_12_2 k a b n T w hk hT' B1.1 B1.2 hs' ha0 ha1 hb0 hb1 hn (Lib.hid hch)
    · exact renc_12_4 k a b n T w hk hT' B1.1 B1.2 hs' ha0 ha1 hb0 hb1 hn (Lib.hid hch)
  · rcases hff with rfl | rfl | rfl
    · exact renc_13_1 k a b n T w hk hT' B1.1 B1.2 hs' ha0 ha1 hb0 hb1 hn (Lib.hid hch)
    · exact renc_13_2 k a b n T w hk hT' B1.1 B1.2 hs' ha0 ha1 hb0 hb1 hn (Lib.hid hch)
    · exact renc_13_4 k a b n T w hk hT' B1.1 B1.2 hs' ha0 ha1 hb0 hb1 hn (Lib.hid hch)

theorem renc_bad (op a b n f C : Int) (w : World) (hC : (C != 0) = true)
    (Hch : Hid (∀ w, Calls Tryd.prog 24 #[.agg #[.int .i64 op, .int .i64 a, .int .i64 b, .int .i32 n, .int .i64 f]] w fun e w' => e = .returned (.int .i64 C) ∧ Below w.heap.size w w')) :
    Calls Tryd.prog 35 #[.agg #[.int .i64 op, .int .i64 a, .int .i64 b, .int .i32 n, .int .i64 f]] w fun e w' => e = .returned (.tuple #[.slice none 0 0, .int .i64 C]) ∧ Below w.heap.size w w' := by
  go_enter Tryd.func35, Tryd.ntmps35
  go_wp2_with (go_at_call 24; refine (Hch.out _).mono ?_; rintro e w2 ⟨rfl, hb2⟩)
  refine bodyPost_ret (v := .tuple #[.slice none 0 0, .int .i64 C]) (by simp [results, Tryd.results35, go_sem]) rfl ⟨rfl, ?_⟩
  exact ((Below.refl w.heap.size w).alloc (Nat.le_refl _) _).trans (hb2.mono (by simp))
theorem refEnc_no (op a b n f : Int) (w : World) (hn : -2147483648 ≤ n ∧ n ≤ 2147483647) (h : checkR op a b n f ≠ 0) :
    Calls Tryd.prog 35 #[.agg #[.int .i64 op, .int .i64 a, .int .i64 b, .int .i32 n, .int .i64 f]] w fun e w' => e = .returned (.tuple #[.slice none 0 0, .int .i64 (checkR op a b n f)]) ∧ Below w.heap.size w w' :=
  renc_bad op a b n f _ w (by simpa using h) (Lib.hid fun w => refCheck_any op a b n f w hn)
end Go.Proofs.YtfplkmldleigpaaDoor
