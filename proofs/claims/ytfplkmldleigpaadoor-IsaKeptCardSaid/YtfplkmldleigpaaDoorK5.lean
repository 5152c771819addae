/- The book of lists as its callers know it: some blocks are its own; what is kept goes in; the rest of the memory stays. No program in sight. Condition: none. -/
import Derived.Test.YtfplkmldleigpaaDoorK3
namespace Go.Proofs.YtfplkmldleigpaaDoor
open Go.RowKit
set_option linter.unusedVariables false

/-- a book at block gB: its blocks are among U, which are all there, none below gB -/
def BookAt (w : World) (tB tS e : TypeId) (sz gB : Nat) (good : List Value → Prop) (U : Nat → Prop) : Prop :=
  ∃ A1 c1 A2 c2 h es, Book w tB tS e sz gB A1 c1 A2 c2 h es ∧ es.length ≤ 4000 ∧ (-9223372036854775808 ≤ h ∧ h ≤ 9223372036854775807) ∧ (∀ x ∈ es, good x.cs) ∧
    (∀ k, Bk.Used gB (.slice A1 es.length c1) (.slice A2 es.length c2) es k → U k) ∧ ∀ k, U k → gB ≤ k ∧ k < w.heap.size
/-- the world has turned in these blocks alone, and in new ones -/
structure KFr (U : Nat → Prop) (w w' : World) : Prop where
  os : w'.os = w.os
  tape : w'.tape = w.tape
  output : w'.output = w.output
  size : w.heap.size ≤ w'.heap.size
  block : ∀ k, k < w.heap.size → ¬ U k → w'.heap[k]? = w.heap[k]?

section
variable {w w' w'' : World} {tB tS e : TypeId} {sz gB : Nat} {good : List Value → Prop} {U U' : Nat → Prop}
theorem KFr.refl (U : Nat → Prop) (w : World) : KFr U w w := ⟨rfl, rfl, rfl, Nat.le_refl _, fun _ _ _ => rfl⟩
theorem KFr.below (h : KFr U w w') (hU : ∀ k, U k → gB ≤ k) (hz : gB ≤ w.heap.size) : Below gB w w' :=
  ⟨h.os, h.tape, h.output, h.size, fun k hk => h.block k (by omega) (fun hu => by have := hU k hu; omega)⟩
theorem BookAt.bound (b : BookAt w tB tS e sz gB good U) : ∀ k, U k → gB ≤ k ∧ k < w.heap.size := by
  obtain ⟨_, _, _, _, _, _, _, _, _, _, _, h⟩ := b
  exact h
theorem BookAt.at_ (b : BookAt w tB tS e sz gB good U) : U gB ∧ gB < w.heap.size := by
  obtain ⟨_, _, _, _, _, _, _, _, _, _, h, h'⟩ := b
  have := h gB (.inl rfl)
  exact ⟨this, (h' gB this).2⟩
/-- what does not turn its blocks keeps the book -/
theorem BookAt.keep (b : BookAt w tB tS e sz gB good U) (hz : w.heap.size ≤ w'.heap.size) (hk : ∀ k, U k → w'.heap[k]? = w.heap[k]?) : BookAt w' tB tS e sz gB good U := by
  obtain ⟨A1, c1, A2, c2, h, es, hb, h1, h2, h3, h4, h5⟩ := b
  exact ⟨A1, c1, A2, c2, h, es, Bk.keep hb fun k hu => hk k (h4 k hu), h1, h2, h3, h4, fun k hu => ⟨(h5 k hu).1, Nat.lt_of_lt_of_le (h5 k hu).2 hz⟩⟩
theorem BookAt.below (b : BookAt w tB tS e sz gB good U) (h : Below w.heap.size w w') : BookAt w' tB tS e sz gB good U :=
  b.keep h.size fun k hu => h.block k (b.bound k hu).2
theorem BookAt.drewN (b : BookAt w tB tS e sz gB good U) (n : Nat) : BookAt (w.drewN n) tB tS e sz gB good U := b.keep (Nat.le_refl _) fun _ _ => rfl
theorem BookAt.alloc (b : BookAt w tB tS e sz gB good U) (o : Obj) : BookAt (w.alloc o) tB tS e sz gB good U :=
  b.keep (by simp) fun k hu => Below.heap_alloc w o k (b.bound k hu).2
/-- a new book -/
theorem BookAt.new_ (h : Blk w gB tB [.slice none 0 0, .slice none 0 0, .int .i64 0, .bool false]) : BookAt w tB tS e sz gB good (· = gB) :=
  ⟨none, 0, none, 0, 0, [], ⟨h, Row.nil_ _ _ _, Row.nil_ _ _ _, by simp, by intro k hk; simp [Value.ownBlock] at hk, by simp, List.Pairwise.nil⟩, by simp, by omega, by simp,
    fun k hu => by
      rcases hu with h | h | h | ⟨x, hx, _⟩
      · exact h
      · simp [Value.ownBlock] at h
      · simp [Value.ownBlock] at h
      · simp at hx,
    fun k hu => by subst hu; exact ⟨Nat.le_refl _, h.lt⟩⟩
end
section
variable {w w' : World} {base n : Nat} {e : TypeId} {v : Value} {xs : List Value}
theorem Row.at_ {A : Option Addr} {c : Nat} (h : Row w base e (.slice A n c) n xs) {k : Nat} {u : Value} (hk : xs[k]? = some u) : ∃ g o, A = some ⟨g, o, none⟩ ∧ base ≤ g ∧ g < w.heap.size ∧ w.cell? ⟨g, o + k, none⟩ = some u := by
  have hl : k < xs.length := (List.getElem?_eq_some_iff.1 hk).1
  rcases h.2 with ⟨hv, h0⟩ | ⟨g, o, cap, cur, hv, hb, hg, hc, hm, hs, ht⟩
  · have := h.1; omega
  · injection hv with h1 h2 h3
    subst h1
    exact ⟨g, o, rfl, hb, (Array.getElem?_eq_some_iff.1 hg).1, by rw [cell_of_row w g (o + k) cur e (0, 0) hg]; exact ht k u hk⟩
theorem Row.cell {g o c : Nat} (h : Row w base e (.slice (some ⟨g, o, none⟩) n c) n xs) {k : Nat} {u : Value} (hk : xs[k]? = some u) : base ≤ g ∧ w.cell? ⟨g, o + k, none⟩ = some u := by
  obtain ⟨g', o', he, hb, _, hc⟩ := h.at_ hk
  injection he with he
  injection he with h1 h2
  subst h1
  subst h2
  exact ⟨hb, hc⟩
theorem Row.rest' {g o c : Nat} {x : Value} (h : Row w base e (.slice (some ⟨g, o, none⟩) (n + 1) c) (n + 1) (x :: xs)) (hc : ¬ c = 1) : Row w base e (.slice (some ⟨g, o + 1, none⟩) n (c - 1)) n xs := by
  have := h.rest
  rwa [if_neg hc, Option.map_some, add_flat] at this
theorem Row.cap {A : Option Addr} {c : Nat} (h : Row w base e (.slice A n c) n xs) : n ≤ c ∧ c ≤ maxLen := by
  rcases h.2 with ⟨hv, h0⟩ | ⟨g, o, cap, cur, hv, hb, hg, hc, hm, hs, ht⟩
  · injection hv with h1 h2 h3
    subst h3
    exact ⟨by omega, Nat.zero_le _⟩
  · injection hv with h1 h2 h3
    subst h3
    exact ⟨hc, hm⟩
end
section
variable {w w1 : World} {tB tS e : TypeId} {sz gB : Nat} {v1 v2 : Value} {n1 n2 : Nat} {xs1 xs2 : List Value} {h : Int} {es : List Ent}
/-- the list's slice is laid behind the first row -/
theorem keep_first (hb : Bk w tB tS e sz gB v1 v2 n1 n2 xs1 xs2 h es) {A : Option Addr} {n c : Nat} {cs : List Value} (hx : Kept w (gB + 1) e sz A n c cs) (hfree : ∀ k, blkOf A c = some k → ¬ Bk.Used gB v1 v2 es k)
    {v1' : Value} {m1 : Nat} {ys : List Value} (hrow : Row w1 (gB + 1) tS v1' m1 ys) (hg : (w.alloc (.cells #[.slice A n c] tS)).grownBy w1 v1.ownBlock) (ho : ∀ k, v1'.ownBlock = some k → v1.ownBlock = some k ∨ (w.alloc (.cells #[.slice A n c] tS)).heap.size ≤ k) :
    Bk (w1.setCell ⟨gB, 0, none⟩ v1') tB tS e sz gB v1' v2 m1 n2 ys xs2 h (es ++ [⟨A, n, c, cs, A, c⟩]) ∧ BFr gB v1.ownBlock v2.ownBlock w v1'.ownBlock v2.ownBlock (w1.setCell ⟨gB, 0, none⟩ v1') ∧
      w1.cell? ⟨gB, 0, none⟩ = some v1 ∧ w1.frozen? ⟨gB, 0, none⟩ = false := by
  have h1 : Bk w tB tS e sz gB v1 v2 n1 n2 xs1 xs2 h (es ++ [⟨A, n, c, cs, A, c⟩]) := hb.add ⟨hx, hx⟩ hfree fun k hk => ⟨fun e1 => hfree k hk (.inr (.inl e1)), fun e1 => hfree k hk (.inr (.inr (.inl e1)))⟩
  have hgB : some gB ≠ v1.ownBlock := fun e => by have := hb.lists.lt gB e.symm; omega
  have blk' : Blk w1 gB tB _ := ((hb.alloc _).blk).grown hg hgB
  exact ⟨(h1.alloc _).push1 hg hrow ho, (((BFr.refl gB _ _ w).alloc _).grown1 hg ho).setB 0 _, blk'.cell 0, blk'.free 0⟩
end
end Go.Proofs.YtfplkmldleigpaaDoor
