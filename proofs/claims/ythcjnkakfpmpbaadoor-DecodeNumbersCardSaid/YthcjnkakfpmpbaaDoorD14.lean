/- Words for the walk of the reference's Decode. Conditions: none. -/
import Derived.Test.YthcjnkakfpmpbaaDoorD13
namespace Go.Proofs.YthcjnkakfpmpbaaDoor
open Go.RowKit
set_option linter.unusedVariables false
set_option linter.unusedSimpArgs false

def RefW (w0 : World) (I : Nat) (i : List Value) (w : World) : Prop :=
  w0.heap.size < I ∧ Below w0.heap.size w0 w ∧ Blk w w0.heap.size 25 [.int .i64 0, .int .i64 0, .int .i64 0, .int .i32 0, .int .i64 0] ∧ Blk w I 25 i
theorem RefW.setI {w0 w : World} {I : Nat} {i : List Value} (h : RefW w0 I i w) (k : Nat) (v : Value) : RefW w0 I (i.set k v) (w.setCell ⟨I, k, none⟩ v) :=
  ⟨h.1, h.2.1.setCell (p := ⟨I, k, none⟩) (by have := h.1; show w0.heap.size ≤ I; omega) v, h.2.2.1.far (p := ⟨I, k, none⟩) (by have := h.1; show w0.heap.size ≠ I; omega) v, h.2.2.2.set_ k v⟩
theorem RefW.below {w0 w w' : World} {I : Nat} {i : List Value} (h : RefW w0 I i w) (hb : Below w.heap.size w w') : RefW w0 I i w' :=
  ⟨h.1, h.2.1.trans (hb.mono h.2.1.size), h.2.2.1.below hb h.2.2.1.lt, h.2.2.2.below hb h.2.2.2.lt⟩
theorem RefW.drew {w0 w : World} {I : Nat} {i : List Value} (h : RefW w0 I i w) : RefW w0 I i w.drew := ⟨h.1, h.2.1.drew, h.2.2.1, h.2.2.2⟩
theorem RefW.ins {w0 w : World} {I : Nat} {a b c d e : Value} (h : RefW w0 I [a, b, c, d, e] w) :
    w.cell? ⟨I, 0, none⟩ = some a ∧ w.cell? ⟨I, 1, none⟩ = some b ∧ w.cell? ⟨I, 2, none⟩ = some c ∧ w.cell? ⟨I, 3, none⟩ = some d ∧ w.cell? ⟨I, 4, none⟩ = some e :=
  ⟨h.2.2.2.cell 0, h.2.2.2.cell 1, h.2.2.2.cell 2, h.2.2.2.cell 3, h.2.2.2.cell 4⟩
theorem RefW.byte {w0 w : World} {I : Nat} {i : List Value} (h : RefW w0 I i w) {b k : Nat} (hb : b < w0.heap.size) : w.cell? ⟨b, k, none⟩ = w0.cell? ⟨b, k, none⟩ := (bcell h.2.1).1 b k hb
theorem run_store_blk {P : Program} {w : World} {g : Nat} {t : TypeId} {i : List Value} (h : Blk w g t i) {a : Act} {o : Oper} {ty : TypeId} {p y : Operand} {k : Nat} {kd : IntKind} {n : Int} (hi : (P.info? ty).map (·.size) = some 1) (ho : o.op = .store ty p y) (hp : a.eval p = .pointer (some ⟨g, k, none⟩))
    (hy : a.eval y = .int kd n) (hk : k < i.length) : (execOp a.eval o).run P w = .ok .skip (w.setCell ⟨g, k, none⟩ (.int kd n)) := by
  have hc : w.cell? ⟨g, k, none⟩ = some i[k] := by rw [h.cell, List.getElem?_eq_getElem hk]
  have hf := h.free k
  cases hq : P.info? ty with
  | none => simp [hq] at hi
  | some ii =>
    have hi1 : ii.size = 1 := by simpa [hq] using hi
    unfold execOp
    simp only [ho, hp, hy]
    go_simp
    simp [sizeOf, typeInfo, hq, hi1, hc, hf, Result.andThen]
theorem wpList_storeV {P : Program} {w0 w : World} {I : Nat} {i : List Value} (h : RefW w0 I i w) {ops : Array Oper} {rest : List Oper} {a : Act} {o : Oper} {Q : Exit → Act → World → Prop} (hgd : o.guard = none) (ty : TypeId) (p y : Operand) (k : Nat) (kd : IntKind) (n : Int)
    (ho : o.op = .store ty p y) (hp : a.eval p = .pointer (some ⟨I, k, none⟩)) (hy : a.eval y = .int kd n) (hk : k < i.length) (hi : (P.info? ty).map (·.size) = some 1)
    (hn : ∀ w', RefW w0 I (i.set k (.int kd n)) w' → wpList P ops Q rest (a.put o.dst undef) w') : wpList P ops Q (o :: rest) a w := by
  refine wpList_plain hgd fun K hK => ?_
  simp only [Oper.wp, run_store_blk h.2.2.2 hi ho hp hy hk, Oper.upon]
  exact hK _ _ (hn _ (h.setI k _))
theorem wpList_storeQ {P : Program} {w0 w : World} (hb : Below w0.heap.size w0 w) (hR : Blk w w0.heap.size 25 [.int .i64 0, .int .i64 0, .int .i64 0, .int .i32 0, .int .i64 0]) {ops : Array Oper} {rest : List Oper} {a : Act} {o : Oper} {Q : Exit → Act → World → Prop} (hgd : o.guard = none) (ty : TypeId) (p y : Operand) (c0 c1 c2 c3 c4 : Value)
    (ho : o.op = .store ty p y) (hp : a.eval p = .pointer (some ⟨w0.heap.size, 0, none⟩)) (hy : a.eval y = .agg #[c0, c1, c2, c3, c4]) (h1 : (#[c0, c1, c2, c3, c4] : Array Value).all (·.oneCell') = true) (hi : (P.info? ty).map (·.size) = some 5)
    (hn : ∀ w', Below w0.heap.size w0 w' → (w'.cell? ⟨w0.heap.size, 0, none⟩ = some c0 ∧ w'.cell? ⟨w0.heap.size, 1, none⟩ = some c1 ∧ w'.cell? ⟨w0.heap.size, 2, none⟩ = some c2 ∧ w'.cell? ⟨w0.heap.size, 3, none⟩ = some c3 ∧ w'.cell? ⟨w0.heap.size, 4, none⟩ = some c4) → wpList P ops Q rest (a.put o.dst undef) w') : wpList P ops Q (o :: rest) a w := by
  have hB := ((((hR.set_ 0 c0).set_ 1 c1).set_ 2 c2).set_ 3 c3).set_ 4 c4
  exact wpList_store_mid hgd ty p y ho w0.heap.size 0 #[c0, c1, c2, c3, c4] hp hy (there5 hR) hi h1 (hn _ (below_setCells (Nat.le_refl _) _ _ _ hb) ⟨hB.cell 0, hB.cell 1, hB.cell 2, hB.cell 3, hB.cell 4⟩)
theorem held_storeV {P : Program} {w0 w : World} {I : Nat} {i : List Value} (h : RefW w0 I i w) {ops : Array Oper} {R : Act → World → Prop} {S : World → Prop} {listed : Array Bool} {a : Act} (q : Nat) {d : Option Tmp} (hk : oneOk ops listed q = true) (hw : Region.wanted (opOf ops q) (yielded ops a.tmps) = true) (hd : (opOf ops q).dst = d)
    (ty : TypeId) (p y : Operand) (k : Nat) (kd : IntKind) (n : Int) (ho : (opOf ops q).op = .store ty p y) (hp : a.eval p = .pointer (some ⟨I, k, none⟩)) (hy : a.eval y = .int kd n) (hkl : k < i.length) (hi : (P.info? ty).map (·.size) = some 1)
    (hn : ∀ w', RefW w0 I (i.set k (.int kd n)) w' → S w' ∧ Held P ops R S (listed.setIfInBounds q true) (a.put d undef) w') : HStep P ops R S listed q a w := fun hS => by
  simp only [oneOk, Bool.and_eq_true, Nat.blt_eq] at hk
  unfold wpOp
  rw [opOf_some hk.1]
  subst hd
  simp only [hw, if_true]
  refine Or.inl ?_
  simp only [Oper.wp, run_store_blk h.2.2.2 hi ho hp hy hkl, Oper.upon]
  exact hn _ (h.setI k _)
noncomputable def ref36 : Array Oper := regOf Tryd.f17.body 36
end Go.Proofs.YthcjnkakfpmpbaaDoor
