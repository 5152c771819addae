/- Words for memory: a block that is known whole; a list that is filled up. No program in sight. No condition. -/
import Derived.Test.YtfplkmldleigpaaDoorM1
import Derived.Laws.CopyOwn
namespace Go.Proofs.YtfplkmldleigpaaDoor
open Go.RowKit

/-- a draw turns no block -/
theorem below_drewN {B : Nat} {a w : World} (h : Below B a w) (n : Nat) : Below B a (w.drewN n) := ⟨h.os, h.tape, h.output, h.size, h.block⟩

/-- what was there reads as before: two rules for a walk -/
theorem bcell {W w1 : World} (hb : Below W.heap.size W w1) : (∀ b o, b < W.heap.size → w1.cell? ⟨b, o, none⟩ = W.cell? ⟨b, o, none⟩) ∧ (∀ b o, b < W.heap.size → w1.frozen? ⟨b, o, none⟩ = W.frozen? ⟨b, o, none⟩) :=
  ⟨fun b o h => hb.cell (p := ⟨b, o, none⟩) h, fun b o h => hb.frozen (p := ⟨b, o, none⟩) h⟩

/-- block g is just these cells, none frozen -/
def Blk (w : World) (g : Nat) (t : TypeId) (cs : List Value) : Prop := w.heap[g]? = some (.cells cs.toArray t (0, 0))

section
variable {w w' : World} {g : Nat} {t : TypeId} {cs : List Value}
theorem Blk.lt (h : Blk w g t cs) : g < w.heap.size := (Array.getElem?_eq_some_iff.1 h).1
theorem Blk.cell (h : Blk w g t cs) (i : Nat) : w.cell? ⟨g, i, none⟩ = cs[i]? := by rw [cell_of_row w g i cs.toArray t (0, 0) h]; simp
theorem Blk.free (h : Blk w g t cs) (i : Nat) : w.frozen? ⟨g, i, none⟩ = false := frozen_of_row w g i cs.toArray t h
theorem Blk.new (w : World) (t : TypeId) (cs : List Value) : Blk (w.alloc (.cells cs.toArray t)) w.heap.size t cs := heap_alloc_new w _
theorem Blk.drewN (h : Blk w g t cs) (n : Nat) : Blk (w.drewN n) g t cs := h
theorem Blk.alloc (h : Blk w g t cs) (o : Obj) : Blk (w.alloc o) g t cs := (Below.heap_alloc w o g h.lt).trans h
theorem Blk.set_ (h : Blk w g t cs) (i : Nat) (u : Value) : Blk (w.setCell ⟨g, i, none⟩ u) g t (cs.set i u) := by
  unfold Blk
  rw [heap_setCell_same w g i cs.toArray t u h]
  simp
theorem Blk.far (h : Blk w g t cs) {p : Addr} (hp : g ≠ p.block) (u : Value) : Blk (w.setCell p u) g t cs := (Below.heap_setCell w p u g hp).trans h
theorem Blk.below {B : Nat} (h : Blk w g t cs) (hb : Below B w w') (hg : g < B) : Blk w' g t cs := (hb.block g hg).trans h
theorem Blk.grown {row : Option Nat} (h : Blk w g t cs) (hb : w.grownBy w' row) (hg : some g ≠ row) : Blk w' g t cs := (hb.block g h.lt hg).trans h
theorem Blk.has (h : Blk w g t cs) : Has w g 0 cs := fun j u hu => by rw [Nat.zero_add, h.cell j, hu]
/-- its first n elements as a slice -/
theorem Blk.sl (h : Blk w g t cs) {sz n : Nat} (hn : cs.length = n * sz) : Sl w w.heap.size sz (some ⟨g, 0, none⟩) n cs := ⟨hn, fun _ => ⟨g, 0, rfl, h.lt, h.has⟩⟩
theorem own_blk {base : Nat} {e : TypeId} {sz n : Nat} (h : w.ownsRow base e sz (.slice (some ⟨g, 0, none⟩) n n) n cs) : Blk w g e cs := by
  rcases h.2 with ⟨hv, _⟩ | ⟨g', cap, cur, hv, _, hg, _, _, hs, ht⟩
  · cases hv
  · injection hv with h1 h2 h3
    subst h3
    injection h1 with h1
    injection h1 with h1
    subst h1
    unfold Blk
    rw [hg, ← ht, List.take_of_length_le (by rw [Array.length_toList, hs]; exact Nat.le_refl _)]
end

/-- a list, filled up to place j with m, the rest of 80 places behind it still z -/
def fillV {α : Type} (xs : List α) (z m : α) (j : Nat) : List α := xs ++ (List.replicate (j - xs.length) m ++ List.replicate (xs.length + 80 - j) z)
theorem fillV_length {α : Type} (xs : List α) (z m : α) (j : Nat) (h0 : xs.length ≤ j) (h1 : j ≤ xs.length + 80) : (fillV xs z m j).length = xs.length + 80 := by
  simp [fillV]; omega
theorem fillV_first {α : Type} (xs : List α) (z m : α) : fillV xs z m xs.length = xs ++ List.replicate 80 z := by simp [fillV]
theorem fillV_last {α : Type} (xs : List α) (z m : α) : fillV xs z m (xs.length + 80) = xs ++ List.replicate 80 m := by simp [fillV]
theorem fillV_step {α : Type} (xs : List α) (z m : α) (j : Nat) (h0 : xs.length ≤ j) (h1 : j < xs.length + 80) : (fillV xs z m j).set j m = fillV xs z m (j + 1) := by
  unfold fillV
  rw [List.set_append_right _ _ h0, List.set_append_right _ _ (by simp)]
  congr 1
  rw [List.length_replicate, Nat.sub_self, show xs.length + 80 - j = (xs.length + 80 - (j + 1)) + 1 by omega, List.replicate_succ, List.set_cons_zero, show j + 1 - xs.length = (j - xs.length) + 1 by omega, List.replicate_succ', List.append_assoc]
  rfl
theorem splice_first {α : Type} (xs : List α) (z : α) (n : Nat) (hn : xs.length = n) : splice (List.replicate (n + 80) z) 0 xs = xs ++ List.replicate 80 z := by
  subst hn
  simp only [splice, List.take_zero, List.nil_append, Nat.zero_add, List.drop_replicate]
  congr 2
  omega
end Go.Proofs.YtfplkmldleigpaaDoor
