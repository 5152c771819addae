/- A round of law DecodeNumbers' loop over seven lists: its call of Decode, in whatever order. Conditions: none. -/
import Derived.Test.YthcjnkakfpmpbaaDoorD12
import Derived.Test.YthcjnkakfpmpbaaDoorR2
namespace Go.Proofs.YthcjnkakfpmpbaaDoor.decodeNumbers
open Go.RowKit
set_option linter.unusedVariables false
set_option linter.unusedSimpArgs false

noncomputable def reg7 : Array Oper := regOf Tryd.f4.body 7
theorem below_setCells {B b : Nat} (hb : B ≤ b) {a : World} : ∀ (cs : List Value) (o : Nat) (w : World), Below B a w → Below B a (w.setCells b o cs)
  | [], _, _, h => h
  | c :: cs, o, w, h => below_setCells hb cs (o + 1) _ (h.setCell (p := ⟨b, o, none⟩) hb c)
theorem there_blk {w : World} {g n : Nat} {t : TypeId} {cs : List Value} (h : Blk w g t cs) (hn : cs.length = n) : w.there g 0 n := fun j hj => ⟨by rw [Nat.zero_add, h.cell, List.getElem?_eq_getElem (by omega)]; rfl, h.free _⟩
theorem there_new5 (w : World) (t : TypeId) (a b c d e : Value) : (w.alloc (.cells #[a, b, c, d, e] t)).there w.heap.size 0 5 := there_blk (Blk.new w t [a, b, c, d, e]) rfl
theorem there_old5 {w w' : World} {B g : Nat} {t : TypeId} {a b c d e : Value} (hb : Below B w w') (h : Blk w g t [a, b, c, d, e]) (hg : g < B) : w'.there g 0 5 := there_blk (h.below hb hg) rfl
theorem set5 {w : World} {g : Nat} {t : TypeId} {a b c d e a' b' c' d' e' : Value} (h : Blk w g t [a, b, c, d, e]) : Blk (w.setCells g 0 [a', b', c', d', e']) g t [a', b', c', d', e'] :=
  ((((h.set_ 0 a').set_ 1 b').set_ 2 c').set_ 3 d').set_ 4 e'
theorem set_new5 (w : World) (t : TypeId) (a b c d e : Value) {a' b' c' d' e' : Value} : Blk ((w.alloc (.cells #[a, b, c, d, e] t)).setCells w.heap.size 0 [a', b', c', d', e']) w.heap.size t [a', b', c', d', e'] := set5 (Blk.new w t [a, b, c, d, e])
theorem set_old5 {w w' : World} {B g : Nat} {t : TypeId} {a b c d e a' b' c' d' e' : Value} (hb : Below B w w') (h : Blk w g t [a, b, c, d, e]) (hg : g < B) : Blk (w'.setCells g 0 [a', b', c', d', e']) g t [a', b', c', d', e'] := set5 (h.below hb hg)

set_option maxRecDepth 100000 in
set_option maxHeartbeats 4000000 in
theorem region7 (rs g1 g2 g3 k n : Nat) (A : Option Addr) (x y : Int) (u5 u6 u7 u8 u9 u10 u11 u12 u13 u14 u15 u16 u17 u18 u19 u20 u21 u22 u23 u24 u25 u26 u27 u28 u29 u30 u31 u32 u33 u34 u35 u36 u37 u38 u39 u40 u41 u42 u43 u44 u45 u46 u47 u48 u49 u50 u51 u52 u53 u54 u55 u56 u57 u58 u59 u60 u61 u62 u63 u64 u65 u66 u67 u68 u69 u70 u71 u72 u73 u74 u75 u76 u77 u78 u79 u80 u81 u82 u83 u84 u85 u86 u87 u88 u89 u90 u91 u92 u93 u94 : Value) (wr : World) (Q : Exit → Act → World → Prop) (hk : k < 7)
    (h1 : g1 < wr.heap.size) (h2 : g2 < wr.heap.size) (c1 : wr.cell? ⟨g1, k, none⟩ = some (.slice A n n)) (c2 : wr.cell? ⟨g2, k, none⟩ = some (.int .i64 x))
    (Hd : Hid (∀ w, Below wr.heap.size wr w → wr.heap.size ≤ w.heap.size → Calls Tryd.prog 16 #[.slice A n n, .int .i64 x] w fun e w' => e = .returned (.tuple #[.agg #[.int .i64 0, .int .i64 0, .int .i64 0, .int .i32 0, .int .i64 0], .int .i64 0, .int .i64 y]) ∧ Below w.heap.size w w'))
    (hQ : ∀ (g : Nat) (W' : World) (v30 v31 v32 v33 v34 v35 v36 v37 v38 v39 v40 v41 v42 v43 v44 : Value), wr.heap.size ≤ g → Blk W' g 25 [.int .i64 0, .int .i64 0, .int .i64 0, .int .i32 0, .int .i64 0] → Below wr.heap.size wr W' → Q .normal { tmps := #[.pointer (some ⟨rs, 0, none⟩), .slice (some ⟨g1, 0, none⟩) 7 7, .slice (some ⟨g2, 0, none⟩) 7 7, .slice (some ⟨g3, 0, none⟩) 7 7, .int .i64 k, .pointer (some ⟨g, 0, none⟩), .int .i64 0, .int .i64 y, u8, u9, u10, u11, u12, u13, u14, u15, u16, u17, u18, u19, u20, u21, u22, u23, u24, u25, u26, u27, u28, u29, v30, v31, v32, v33, v34, v35, v36, v37, v38, v39, v40, v41, v42, v43, v44, u45, u46, u47, u48, u49, u50, u51, u52, u53, u54, u55, u56, u57, u58, u59, u60, u61, u62, u63, u64, u65, u66, u67, u68, u69, u70, u71, u72, u73, u74, u75, u76, u77, u78, u79, u80, u81, u82, u83, u84, u85, u86, u87, u88, u89, u90, u91, u92, u93, u94], defers := [] } W') :
    (Code.region 7 reg7 true).wp Tryd.prog Q { tmps := #[.pointer (some ⟨rs, 0, none⟩), .slice (some ⟨g1, 0, none⟩) 7 7, .slice (some ⟨g2, 0, none⟩) 7 7, .slice (some ⟨g3, 0, none⟩) 7 7, .int .i64 k, u5, u6, u7, u8, u9, u10, u11, u12, u13, u14, u15, u16, u17, u18, u19, u20, u21, u22, u23, u24, u25, u26, u27, u28, u29, u30, u31, u32, u33, u34, u35, u36, u37, u38, u39, u40, u41, u42, u43, u44, u45, u46, u47, u48, u49, u50, u51, u52, u53, u54, u55, u56, u57, u58, u59, u60, u61, u62, u63, u64, u65, u66, u67, u68, u69, u70, u71, u72, u73, u74, u75, u76, u77, u78, u79, u80, u81, u82, u83, u84, u85, u86, u87, u88, u89, u90, u91, u92, u93, u94], defers := [] } wr := by
  have i1 : (k : Int) < 7 := by omega
  refine held_start (ops' := reg7) (l0 := #[false, false, false, false, false, false, false, false, false, false, false, false, false, false, false, false, false]) (S := (fun w' => Below wr.heap.size wr w')) (by kernel_rfl) (by kernel_rfl) (by kernel_rfl) (by kernel_rfl) (below_drewN (Below.refl _ _) 1) (fun R hR => ?_)
  (refine held_take (v := ?_) (d := some 31) 0 (by kernel_rfl) (by kernel_rfl) rfl ?_ ?_
   rotate_left
   · intro w hSw
     conv in opOf _ _ => whnf
     (have cA := fun b o h => hSw.cell (p := ⟨b, o, none⟩) h)
     go_simp
     try (with_reducible rfl)
   try simp only [Act.put, List.setIfInBounds_toArray, List.set_cons_zero, List.set_cons_succ])
  (refine held_take (v := ?_) (d := some 32) 1 (by kernel_rfl) (by kernel_rfl) rfl ?_ ?_
   rotate_left
   · intro w hSw
     conv in opOf _ _ => whnf
     (have cA := fun b o h => hSw.cell (p := ⟨b, o, none⟩) h)
     go_simp
     try (with_reducible rfl)
   try simp only [Act.put, List.setIfInBounds_toArray, List.set_cons_zero, List.set_cons_succ])
  (refine held_take (v := ?_) (d := some 33) 2 (by kernel_rfl) (by kernel_rfl) rfl ?_ ?_
   rotate_left
   · intro w hSw
     conv in opOf _ _ => whnf
     (have cA := fun b o h => hSw.cell (p := ⟨b, o, none⟩) h)
     go_simp
     try (with_reducible rfl)
   try simp only [Act.put, List.setIfInBounds_toArray, List.set_cons_zero, List.set_cons_succ])
  (refine held_take (v := ?_) (d := some 34) 3 (by kernel_rfl) (by kernel_rfl) rfl ?_ ?_
   rotate_left
   · intro w hSw
     conv in opOf _ _ => whnf
     (have cA := fun b o h => hSw.cell (p := ⟨b, o, none⟩) h)
     go_simp
     try (with_reducible rfl)
   try simp only [Act.put, List.setIfInBounds_toArray, List.set_cons_zero, List.set_cons_succ])
  (refine held_take (v := ?_) (d := some 35) 4 (by kernel_rfl) (by kernel_rfl) rfl ?_ ?_
   rotate_left
   · intro w hSw
     conv in opOf _ _ => whnf
     (have cA := fun b o h => hSw.cell (p := ⟨b, o, none⟩) h)
     go_simp
     try (with_reducible rfl)
   try simp only [Act.put, List.setIfInBounds_toArray, List.set_cons_zero, List.set_cons_succ])
  (refine held_take (v := ?_) (d := some 36) 5 (by kernel_rfl) (by kernel_rfl) rfl ?_ ?_
   rotate_left
   · intro w hSw
     conv in opOf _ _ => whnf
     (have cA := fun b o h => hSw.cell (p := ⟨b, o, none⟩) h)
     go_simp
     try (with_reducible rfl)
   try simp only [Act.put, List.setIfInBounds_toArray, List.set_cons_zero, List.set_cons_succ])
  (refine held_take (v := ?_) (d := some 37) 6 (by kernel_rfl) (by kernel_rfl) rfl ?_ ?_
   rotate_left
   · intro w hSw
     conv in opOf _ _ => whnf
     (have cA := fun b o h => hSw.cell (p := ⟨b, o, none⟩) h)
     go_simp
     try (with_reducible rfl)
   try simp only [Act.put, List.setIfInBounds_toArray, List.set_cons_zero, List.set_cons_succ])
  (refine held_take (v := ?_) (d := some 38) 7 (by kernel_rfl) (by kernel_rfl) rfl ?_ ?_
   rotate_left
   · intro w hSw
     conv in opOf _ _ => whnf
     (have cA := fun b o h => hSw.cell (p := ⟨b, o, none⟩) h)
     go_simp
     try (with_reducible rfl)
   try simp only [Act.put, List.setIfInBounds_toArray, List.set_cons_zero, List.set_cons_succ])
  refine held_two 8 13 (by kernel_rfl) (by kernel_rfl) (by kernel_rfl) ?_ ?_
  · (refine (held_callE (B := fun V w' => V = .tuple #[.agg #[.int .i64 0, .int .i64 0, .int .i64 0, .int .i32 0, .int .i64 0], .int .i64 0, .int .i64 y] ∧ Below wr.heap.size wr.drew w') (d := some 39) 8 (by kernel_rfl) (by kernel_rfl) rfl (fun hS => (Hd.out wr.drew (below_drewN (Below.refl wr.heap.size wr) 1) (Nat.le_refl _)).mono fun _ _ h => ⟨_, h.1, rfl, (by simpa using h.2)⟩) (by kernel_rfl) (fun V w1 hS hV => ⟨hS.trans (hV.2.mono (Nat.le_refl _)), ?_⟩))
     obtain ⟨rfl, hb⟩ := hV
     try simp only [Act.put, List.setIfInBounds_toArray, List.set_cons_zero, List.set_cons_succ])
    (refine held_take (v := ?_) (d := some 30) 9 (by kernel_rfl) (by kernel_rfl) rfl ?_ ?_
     rotate_left
     · intro w hSw
       conv in opOf _ _ => whnf
       (have cA := fun b o h => hSw.cell (p := ⟨b, o, none⟩) h)
       go_simp
       try (with_reducible rfl)
     try simp only [Act.put, List.setIfInBounds_toArray, List.set_cons_zero, List.set_cons_succ])
    (refine held_take (v := ?_) (d := some 40) 10 (by kernel_rfl) (by kernel_rfl) rfl ?_ ?_
     rotate_left
     · intro w hSw
       conv in opOf _ _ => whnf
       (have cA := fun b o h => hSw.cell (p := ⟨b, o, none⟩) h)
       go_simp
       try (with_reducible rfl)
     try simp only [Act.put, List.setIfInBounds_toArray, List.set_cons_zero, List.set_cons_succ])
    (refine held_take (v := ?_) (d := some 41) 11 (by kernel_rfl) (by kernel_rfl) rfl ?_ ?_
     rotate_left
     · intro w hSw
       conv in opOf _ _ => whnf
       (have cA := fun b o h => hSw.cell (p := ⟨b, o, none⟩) h)
       go_simp
       try (with_reducible rfl)
     try simp only [Act.put, List.setIfInBounds_toArray, List.set_cons_zero, List.set_cons_succ])
    (refine held_take (v := ?_) (d := some 42) 12 (by kernel_rfl) (by kernel_rfl) rfl ?_ ?_
     rotate_left
     · intro w hSw
       conv in opOf _ _ => whnf
       (have cA := fun b o h => hSw.cell (p := ⟨b, o, none⟩) h)
       go_simp
       try (with_reducible rfl)
     try simp only [Act.put, List.setIfInBounds_toArray, List.set_cons_zero, List.set_cons_succ])
    (refine held_one 13 (by kernel_rfl) (by kernel_rfl) (held_run (v := ?_) (w' := ?_) (d := some 5) 13 (by kernel_rfl) (by kernel_rfl) rfl ?_ ?_)
     rotate_left 2
     · intro hSw
       conv in opOf _ _ => whnf
       go_simp
       first | done | (with_reducible rfl) | (constructor <;> with_reducible rfl)
     intro hS
     refine ⟨hS.alloc hS.size _, ?_⟩
     try simp only [Act.put, List.setIfInBounds_toArray, List.set_cons_zero, List.set_cons_succ])
    (refine held_one 14 (by kernel_rfl) (by kernel_rfl) (held_store (d := none) 14 (by kernel_rfl) (by kernel_rfl) rfl 25 (.tmp 5) (.tmp 40) (by kernel_rfl) w1.heap.size 0 #[.int .i64 0, .int .i64 0, .int .i64 0, .int .i32 0, .int .i64 0] (by kernel_rfl) (by kernel_rfl) (fun hS => there_new5 w1 _ _ _ _ _ _) (by kernel_rfl) (by kernel_rfl) (fun hS => ⟨below_setCells hb.size _ _ _ hS, ?_⟩))
     try simp only [Act.put, List.setIfInBounds_toArray, List.set_cons_zero, List.set_cons_succ])
    (refine held_take (v := ?_) (d := some 6) 15 (by kernel_rfl) (by kernel_rfl) rfl ?_ ?_
     rotate_left
     · intro w hSw
       conv in opOf _ _ => whnf
       (have cA := fun b o h => hSw.cell (p := ⟨b, o, none⟩) h)
       go_simp
       try (with_reducible rfl)
     try simp only [Act.put, List.setIfInBounds_toArray, List.set_cons_zero, List.set_cons_succ])
    (refine held_take (v := ?_) (d := some 7) 16 (by kernel_rfl) (by kernel_rfl) rfl ?_ ?_
     rotate_left
     · intro w hSw
       conv in opOf _ _ => whnf
       (have cA := fun b o h => hSw.cell (p := ⟨b, o, none⟩) h)
       go_simp
       try (with_reducible rfl)
     try simp only [Act.put, List.setIfInBounds_toArray, List.set_cons_zero, List.set_cons_succ])
    refine held_done (by kernel_rfl) (fun hS => hR.out _ _ ?_)
    exact hQ w1.heap.size _ _ _ _ _ _ _ _ _ _ _ _ _ _ _ _ hb.size (set_new5 w1 _ _ _ _ _ _) hS
  · (refine (held_run (v := ?_) (w' := ?_) (d := some 5) 13 (by kernel_rfl) (by kernel_rfl) rfl ?_ ?_)
     rotate_left 2
     · intro hSw
       conv in opOf _ _ => whnf
       go_simp
       first | done | (with_reducible rfl) | (constructor <;> with_reducible rfl)
     intro hS
     refine ⟨hS.alloc hS.size _, ?_⟩
     try simp only [Act.put, List.setIfInBounds_toArray, List.set_cons_zero, List.set_cons_succ])
    (refine held_one 8 (by kernel_rfl) (by kernel_rfl) (held_callE (B := fun V w' => V = .tuple #[.agg #[.int .i64 0, .int .i64 0, .int .i64 0, .int .i32 0, .int .i64 0], .int .i64 0, .int .i64 y] ∧ Below (wr.heap.size + 1) (World.alloc wr.drew (.cells #[.int .i64 0, .int .i64 0, .int .i64 0, .int .i32 0, .int .i64 0] 25)) w') (d := some 39) 8 (by kernel_rfl) (by kernel_rfl) rfl (fun hS => (Hd.out (World.alloc wr.drew (.cells #[.int .i64 0, .int .i64 0, .int .i64 0, .int .i32 0, .int .i64 0] 25)) ((below_drewN (Below.refl wr.heap.size wr) 1).alloc (Nat.le_refl _) _) (by simp)).mono fun _ _ h => ⟨_, h.1, rfl, (by simpa using h.2)⟩) (by kernel_rfl) (fun V w1 hS hV => ⟨hS.trans (hV.2.mono (by omega)), ?_⟩))
     obtain ⟨rfl, hb⟩ := hV
     try simp only [Act.put, List.setIfInBounds_toArray, List.set_cons_zero, List.set_cons_succ])
    (refine held_take (v := ?_) (d := some 30) 9 (by kernel_rfl) (by kernel_rfl) rfl ?_ ?_
     rotate_left
     · intro w hSw
       conv in opOf _ _ => whnf
       (have cA := fun b o h => hSw.cell (p := ⟨b, o, none⟩) h)
       go_simp
       try (with_reducible rfl)
     try simp only [Act.put, List.setIfInBounds_toArray, List.set_cons_zero, List.set_cons_succ])
    (refine held_take (v := ?_) (d := some 40) 10 (by kernel_rfl) (by kernel_rfl) rfl ?_ ?_
     rotate_left
     · intro w hSw
       conv in opOf _ _ => whnf
       (have cA := fun b o h => hSw.cell (p := ⟨b, o, none⟩) h)
       go_simp
       try (with_reducible rfl)
     try simp only [Act.put, List.setIfInBounds_toArray, List.set_cons_zero, List.set_cons_succ])
    (refine held_take (v := ?_) (d := some 41) 11 (by kernel_rfl) (by kernel_rfl) rfl ?_ ?_
     rotate_left
     · intro w hSw
       conv in opOf _ _ => whnf
       (have cA := fun b o h => hSw.cell (p := ⟨b, o, none⟩) h)
       go_simp
       try (with_reducible rfl)
     try simp only [Act.put, List.setIfInBounds_toArray, List.set_cons_zero, List.set_cons_succ])
    (refine held_take (v := ?_) (d := some 42) 12 (by kernel_rfl) (by kernel_rfl) rfl ?_ ?_
     rotate_left
     · intro w hSw
       conv in opOf _ _ => whnf
       (have cA := fun b o h => hSw.cell (p := ⟨b, o, none⟩) h)
       go_simp
       try (with_reducible rfl)
     try simp only [Act.put, List.setIfInBounds_toArray, List.set_cons_zero, List.set_cons_succ])
    (refine held_one 14 (by kernel_rfl) (by kernel_rfl) (held_store (d := none) 14 (by kernel_rfl) (by kernel_rfl) rfl 25 (.tmp 5) (.tmp 40) (by kernel_rfl) wr.heap.size 0 #[.int .i64 0, .int .i64 0, .int .i64 0, .int .i32 0, .int .i64 0] (by kernel_rfl) (by kernel_rfl) (fun hS => there_old5 hb (Blk.new wr.drew _ _) (Nat.lt_succ_self _)) (by kernel_rfl) (by kernel_rfl) (fun hS => ⟨below_setCells (Nat.le_refl _) _ _ _ hS, ?_⟩))
     try simp only [Act.put, List.setIfInBounds_toArray, List.set_cons_zero, List.set_cons_succ])
    (refine held_take (v := ?_) (d := some 6) 15 (by kernel_rfl) (by kernel_rfl) rfl ?_ ?_
     rotate_left
     · intro w hSw
       conv in opOf _ _ => whnf
       (have cA := fun b o h => hSw.cell (p := ⟨b, o, none⟩) h)
       go_simp
       try (with_reducible rfl)
     try simp only [Act.put, List.setIfInBounds_toArray, List.set_cons_zero, List.set_cons_succ])
    (refine held_take (v := ?_) (d := some 7) 16 (by kernel_rfl) (by kernel_rfl) rfl ?_ ?_
     rotate_left
     · intro w hSw
       conv in opOf _ _ => whnf
       (have cA := fun b o h => hSw.cell (p := ⟨b, o, none⟩) h)
       go_simp
       try (with_reducible rfl)
     try simp only [Act.put, List.setIfInBounds_toArray, List.set_cons_zero, List.set_cons_succ])
    refine held_done (by kernel_rfl) (fun hS => hR.out _ _ ?_)
    exact hQ wr.heap.size _ _ _ _ _ _ _ _ _ _ _ _ _ _ _ _ (Nat.le_refl _) (set_old5 hb (Blk.new wr.drew _ _) (Nat.lt_succ_self _)) hS
end Go.Proofs.YthcjnkakfpmpbaaDoor.decodeNumbers
