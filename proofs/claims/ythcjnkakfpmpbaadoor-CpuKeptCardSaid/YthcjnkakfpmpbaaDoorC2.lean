/- Words for the machine: its one block, whole; what a call may turn. No program in sight. Condition: none. -/
import Derived.Test.YthcjnkakfpmpbaaDoorC1
import Derived.Test.YthcjnkakfpmpbaaDoorK7
import Derived.Test.YthcjnkakfpmpbaaDoorR2
namespace Go.Proofs.YthcjnkakfpmpbaaDoor
open Go.RowKit
set_option linter.unusedVariables false

theorem Blk.other {w : World} {X : Nat} {t : TypeId} {cs : List Value} (h : Blk w X t cs) {p : Addr} {u : Value} (hp : X ≠ p.block) : Blk (w.setCell p u) X t cs := (Below.heap_setCell w p u X hp).trans h
/-- the machine at block g holds these cells; besides it only new memory has turned -/
structure CW (w0 : World) (g : Nat) (cells : List Value) (w : World) : Prop where
  fr : KFr (· = g) w0 w
  blk : Blk w g 119 cells
  lt : g < w0.heap.size
section
variable {w0 w w' w'' : World} {g : Nat} {cells cells' : List Value}
theorem CW.start (hB : Blk w g 119 cells) : CW w g cells w := ⟨KFr.refl _ _, hB, hB.lt⟩
theorem CW.below (h : CW w0 g cells w) (hb : Below w.heap.size w w') : CW w0 g cells w' :=
  ⟨⟨hb.os.trans h.fr.os, hb.tape.trans h.fr.tape, hb.output.trans h.fr.output, Nat.le_trans h.fr.size hb.size, fun k hk hu => (hb.block k (Nat.lt_of_lt_of_le hk h.fr.size)).trans (h.fr.block k hk hu)⟩, h.blk.below hb h.blk.lt, h.lt⟩
theorem CW.alloc (h : CW w0 g cells w) (o : Obj) : CW w0 g cells (w.alloc o) := h.below ((Below.refl _ _).alloc (Nat.le_refl _) o)
theorem CW.drewN (h : CW w0 g cells w) (n : Nat) : CW w0 g cells (w.drewN n) := ⟨⟨h.fr.os, h.fr.tape, h.fr.output, h.fr.size, h.fr.block⟩, h.blk, h.lt⟩
theorem CW.setReg (h : CW w0 g cells w) (i : Nat) (u : Value) : CW w0 g (cells.set i u) (w.setCell ⟨g, i, none⟩ u) :=
  ⟨h.fr.trans ⟨rfl, rfl, rfl, by simp, fun k hk hu => Below.heap_setCell w _ u k hu⟩, h.blk.set_ i u, h.lt⟩
theorem CW.far (h : CW w0 g cells w) {k : Nat} (hk : w0.heap.size ≤ k) (i : Nat) (u : Value) : CW w0 g cells (w.setCell ⟨k, i, none⟩ u) := by
  have hlt := h.lt
  exact ⟨⟨h.fr.os, h.fr.tape, h.fr.output, Nat.le_trans h.fr.size (by simp), fun j hj hu => (Below.heap_setCell w _ u j (by show j ≠ k; omega)).trans (h.fr.block j hj hu)⟩, (Below.heap_setCell w _ u g (by show g ≠ k; omega)).trans h.blk, h.lt⟩
theorem CW.farCells {k : Nat} (hk : w0.heap.size ≤ k) : ∀ (vs : List Value) (o : Nat) (w : World), CW w0 g cells w → CW w0 g cells (w.setCells k o vs)
  | [], _, _, h => h
  | v :: r, o, w, h => CW.farCells hk r (o + 1) _ (h.far hk o v)
theorem CW.trans (h : CW w0 g cells w) (h' : CW w g cells' w') : CW w0 g cells' w' := ⟨h.fr.trans h'.fr, h'.blk, h.lt⟩
theorem CW.tab {t : Nat} (h : CW w0 g cells w) (hT : TabIs t w0) (ht : t ≠ g) : TabIs t w := by
  obtain ⟨ty, hb⟩ := hT
  exact ⟨ty, (h.fr.block t hb.lt ht).trans hb⟩
theorem CW.bel {B : Nat} (h : CW w0 g cells w) (hB : B ≤ g) : Below B w0 w :=
  ⟨h.fr.os, h.fr.tape, h.fr.output, h.fr.size, fun k hk => h.fr.block k (by have := h.lt; omega) (by omega)⟩
theorem CW.sl {B sz n : Nat} {A : Option Addr} {cs : List Value} (h : CW w0 g cells w) (hs : Sl w0 B sz A n cs) (hB : B ≤ g) : Sl w B sz A n cs := hs.below (h.bel hB)
theorem CW.size (h : CW w0 g cells w) : w0.heap.size ≤ w.heap.size := h.fr.size
end
section
variable {P : Program} {ops : Array Oper} {R : Act → World → Prop} {S : World → Prop} {listed : Array Bool} {a : Act} {w : World}
/-- whichever of these comes up -/
theorem held_many (l : List Nat) (hr : Region.ready .any ops listed = l) (hne : l ≠ []) (hk : ∀ i ∈ l, oneOk ops listed i = true) (h : ∀ i ∈ l, HStep P ops R S listed i a w) : Held P ops R S listed a w := fun hS => by
  obtain ⟨i0, hi0⟩ : ∃ i, i ∈ l := List.exists_mem_of_ne_nil l hne
  have hk2 : ∀ i ∈ l, leftOf listed = leftOf (listed.setIfInBounds i true) + 1 := fun i hi => by have := hk i hi; simp only [oneOk, Bool.and_eq_true, Nat.beq_eq] at this; exact this.2
  rw [hk2 i0 hi0]
  refine wpAnyH_all hr hne (fun j hj => ?_)
  have e : leftOf (listed.setIfInBounds i0 true) = leftOf (listed.setIfInBounds j true) := by have h1 := hk2 i0 hi0; have h2 := hk2 j hj; omega
  rw [e]
  exact wpOp_mono (fun a' w' h => ⟨h.1, h.2 h.1⟩) (h j hj hS)
end
theorem run_store_complex {P : Program} {w : World} {a : Addr} {m : Mode} (k : FloatKind) (x y : Nat) : (store a (.complex k x y) m).run P w = stored P w a (.complex k x y) m := run_store P w a _ m rfl
end Go.Proofs.YthcjnkakfpmpbaaDoor
