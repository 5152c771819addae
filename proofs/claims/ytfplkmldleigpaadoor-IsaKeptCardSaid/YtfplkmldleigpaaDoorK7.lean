/- The book's last look: each list is written full with marks of its own, one cell an element; no other list is touched. No program in sight. Condition: none. -/
import Derived.Test.YtfplkmldleigpaaDoorK5
namespace Go.Proofs.YtfplkmldleigpaaDoor
open Go.RowKit
set_option linter.unusedVariables false

/-- the list has no room, or a block of its own that is as long as its room at least -/
def Wide (w : World) (e : TypeId) (gB : Nat) (x : Ent) : Prop :=
  x.n ≤ x.c ∧ x.c ≤ maxLen ∧ (x.c = 0 ∨ ∃ g cur, x.A = some ⟨g, 0, none⟩ ∧ gB + 1 ≤ g ∧ w.heap[g]? = some (.cells cur e (0, 0)) ∧ x.c ≤ cur.size)
def Marked (w : World) (mk : Nat → Nat → Value) (k : Nat) (x : Ent) (m : Nat) : Prop := ∀ j, j < m → ∃ g, x.A = some ⟨g, 0, none⟩ ∧ w.cell? ⟨g, j, none⟩ = some (mk k j)
/-- the first i lists are marked whole, the next one at its first j places -/
structure Fl (w : World) (tB tS e : TypeId) (gB : Nat) (A1 : Option Addr) (c1 N : Nat) (v2 : Value) (h : Int) (es : List Ent) (mk : Nat → Nat → Value) (i j : Nat) : Prop where
  len : es.length = N
  blk : Blk w gB tB [.slice A1 N c1, v2, .int .i64 h, .bool false]
  row : Row w (gB + 1) tS (.slice A1 N c1) N (es.map Ent.v)
  wide : ∀ x ∈ es, Wide w e gB x
  off : ∀ x ∈ es, ∀ k, blkOf x.A x.c = some k → Value.ownBlock (.slice A1 N c1) ≠ some k
  apart : ∀ (a b : Nat) (x y : Ent), a < b → es[a]? = some x → es[b]? = some y → ∀ k, blkOf x.A x.c = some k → blkOf y.A y.c ≠ some k
  done : ∀ k x, k < i → es[k]? = some x → Marked w mk k x x.c
  now : ∀ x, es[i]? = some x → Marked w mk i x j

section
variable {w w' : World} {tB tS e : TypeId} {gB : Nat} {A1 : Option Addr} {c1 N : Nat} {v2 : Value} {h : Int} {es : List Ent} {mk : Nat → Nat → Value} {i j : Nat}

theorem Kept.wide {base : Nat} {x : Ent} (h : Kept w (gB + 1) e 1 x.A x.n x.c x.cs) : Wide w e gB x := by
  refine ⟨h.le.1, h.le.2, ?_⟩
  rcases h.2 with ⟨h0, _⟩ | ⟨g, cur, hA, hb, hg, _, _, _, hs, _⟩
  · exact .inl h0
  · exact .inr ⟨g, cur, hA, hb, hg, by omega⟩
theorem Fl.start {xs2 : List Value} {n2 : Nat} (b : Bk w tB tS e 1 gB (.slice A1 N c1) v2 N n2 (es.map Ent.v) xs2 h es) (hN : es.length = N) (mk : Nat → Nat → Value) : Fl w tB tS e gB A1 c1 N v2 h es mk 0 0 where
  len := hN
  blk := b.blk
  row := b.lists
  wide := fun x hx => Kept.wide (base := 0) (b.ents x hx).1
  off := fun x hx k hk => (b.off x hx k (.inl hk)).1
  apart := fun a c x y hac hx hy k hk => by
    have := List.pairwise_iff_getElem.1 b.apart a c (List.getElem?_eq_some_iff.1 hx).1 (List.getElem?_eq_some_iff.1 hy).1 hac
    rw [(List.getElem?_eq_some_iff.1 hx).2, (List.getElem?_eq_some_iff.1 hy).2] at this
    exact this k hk
  done := fun k x hk => by omega
  now := fun x hx j hj => by omega
theorem blkOf_some {g c : Nat} (hc : 0 < c) : blkOf (some ⟨g, 0, none⟩) c = some g := by unfold blkOf; rw [if_neg (by omega)]; rfl
/-- one mark more -/
theorem Fl.store (f : Fl w tB tS e gB A1 c1 N v2 h es mk i j) {x : Ent} (hx : es[i]? = some x) (hj : j < x.c) {g : Nat} (hA : x.A = some ⟨g, 0, none⟩) :
    Fl (w.setCell ⟨g, j, none⟩ (mk i j)) tB tS e gB A1 c1 N v2 h es mk i (j + 1) := by
  have hxm := List.mem_of_getElem? hx
  have hxb : blkOf x.A x.c = some g := by rw [hA]; exact blkOf_some (by omega)
  have hw : gB + 1 ≤ g ∧ ∃ cur, w.heap[g]? = some (.cells cur e (0, 0)) ∧ x.c ≤ cur.size := by
    obtain ⟨_, _, h0 | ⟨g', cur, hA', hb, hg, hs⟩⟩ := f.wide x hxm
    · omega
    · rw [hA] at hA'; injection hA' with hA'; injection hA' with e1; subst e1; exact ⟨hb, cur, hg, hs⟩
  obtain ⟨hgB, cur, hg, hs⟩ := hw
  have hoth : ∀ k, k ≠ g → (w.setCell ⟨g, j, none⟩ (mk i j)).heap[k]? = w.heap[k]? := fun k hk => Below.heap_setCell w _ _ k hk
  have hself : (w.setCell ⟨g, j, none⟩ (mk i j)).heap[g]? = some (.cells (cur.setIfInBounds j (mk i j)) e (0, 0)) := heap_setCell_same w g j cur e (mk i j) hg
  have hnew : (w.setCell ⟨g, j, none⟩ (mk i j)).cell? ⟨g, j, none⟩ = some (mk i j) := by
    rw [cell_of_row _ g j _ e (0, 0) hself, Array.getElem?_setIfInBounds_self_of_lt (by omega)]
  have hcell : ∀ k t u, (k ≠ g ∨ t ≠ j) → w.cell? ⟨k, t, none⟩ = some u → (w.setCell ⟨g, j, none⟩ (mk i j)).cell? ⟨k, t, none⟩ = some u := fun k t u hk hc => by
    rw [World.cell?_setCell_other _ _ _ _ (fun e => by injection e with e1 e2; omega)]
    exact hc
  have hfar : ∀ k y, k < i → es[k]? = some y → ∀ b, blkOf y.A y.c = some b → b ≠ g := fun k y hk hy b hb e => f.apart k i y x hk hy hx b hb (e ▸ hxb)
  refine ⟨f.len, (hoth gB (by omega)).trans f.blk, f.row.keep fun k hk => hoth k (fun e => f.off x hxm g hxb (e ▸ hk)), fun y hy => ?_, f.off, f.apart, fun k y hk hy j' hj' => ?_, fun y hy j' hj' => ?_⟩
  · obtain ⟨a1, a2, h0 | ⟨g', cur', hA', hb', hg', hs'⟩⟩ := f.wide y hy
    · exact ⟨a1, a2, .inl h0⟩
    · refine ⟨a1, a2, .inr ?_⟩
      by_cases e1 : g' = g
      · subst e1
        rw [hg] at hg'
        injection hg' with hg'
        injection hg' with hc
        subst hc
        exact ⟨g', _, hA', hb', hself, by simpa using hs'⟩
      · exact ⟨g', cur', hA', hb', (hoth g' e1).trans hg', hs'⟩
  · obtain ⟨g', hA', hc'⟩ := f.done k y hk hy j' hj'
    have hne := hfar k y hk hy g' (by rw [hA']; exact blkOf_some (by omega))
    exact ⟨g', hA', hcell g' j' _ (.inl hne) hc'⟩
  · obtain rfl : y = x := by rw [hx] at hy; injection hy with hy; exact hy.symm
    by_cases hjj : j' = j
    · subst hjj
      exact ⟨g, hA, hnew⟩
    · obtain ⟨g', hA', hc'⟩ := f.now y hy j' (by omega)
      exact ⟨g', hA', hcell g' j' _ (.inr hjj) hc'⟩
/-- the next list -/
theorem Fl.next (f : Fl w tB tS e gB A1 c1 N v2 h es mk i j) {x : Ent} (hx : es[i]? = some x) (hj : x.c ≤ j) : Fl w tB tS e gB A1 c1 N v2 h es mk (i + 1) 0 := by
  refine ⟨f.len, f.blk, f.row, f.wide, f.off, f.apart, fun k y hk hy => ?_, fun y hy j' hj' => by omega⟩
  by_cases hki : k = i
  · subst hki
    rw [hx] at hy
    injection hy with hy
    subst hy
    intro j' hj'
    exact f.now x hx j' (by omega)
  · exact f.done k y (by omega) hy
theorem Fl.keep (f : Fl w tB tS e gB A1 c1 N v2 h es mk i j) (hk : ∀ k : Nat, w'.heap[k]? = w.heap[k]?) : Fl w' tB tS e gB A1 c1 N v2 h es mk i j := by
  have hc : ∀ (g t : Nat) (u : Value), w.cell? ⟨g, t, none⟩ = some u → w'.cell? ⟨g, t, none⟩ = some u := fun g t u hu => (World.cell?_of_block (w := w) (a := ⟨g, t, none⟩) (hk g)).trans hu
  refine ⟨f.len, (hk gB).trans f.blk, f.row.keep fun k _ => hk k, fun x hx => ?_, f.off, f.apart, fun k y hki hy j' hj' => ?_, fun y hy j' hj' => ?_⟩
  · obtain ⟨a1, a2, h0 | ⟨g', cur', hA', hb', hg', hs'⟩⟩ := f.wide x hx
    · exact ⟨a1, a2, .inl h0⟩
    · exact ⟨a1, a2, .inr ⟨g', cur', hA', hb', (hk g').trans hg', hs'⟩⟩
  · obtain ⟨g', hA', hc'⟩ := f.done k y hki hy j' hj'
    exact ⟨g', hA', hc _ _ _ hc'⟩
  · obtain ⟨g', hA', hc'⟩ := f.now y hy j' hj'
    exact ⟨g', hA', hc _ _ _ hc'⟩
theorem Fl.drewN (f : Fl w tB tS e gB A1 c1 N v2 h es mk i j) (n : Nat) : Fl (w.drewN n) tB tS e gB A1 c1 N v2 h es mk i j := f.keep fun _ => rfl
theorem Fl.ent (f : Fl w tB tS e gB A1 c1 N v2 h es mk i j) {k : Nat} (hk : k < N) : ∃ x, es[k]? = some x := ⟨es[k]'(by rw [f.len]; exact hk), List.getElem?_eq_getElem _⟩
/-- the slice of a list -/
theorem Fl.slice (f : Fl w tB tS e gB A1 c1 N v2 h es mk i j) {k : Nat} {x : Ent} (hx : es[k]? = some x) : ∃ b o, A1 = some ⟨b, o, none⟩ ∧ w.cell? ⟨b, o + k, none⟩ = some (.slice x.A x.n x.c) := by
  obtain ⟨b, o, hA, _, _, hc⟩ := f.row.at_ (k := k) (u := x.v) (by rw [List.getElem?_map, hx]; rfl)
  exact ⟨b, o, hA, hc⟩
theorem KFr.trans {U : Nat → Prop} {w'' : World} (h : KFr U w w') (h' : KFr U w' w'') : KFr U w w'' where
  os := h'.os.trans h.os
  tape := h'.tape.trans h.tape
  output := h'.output.trans h.output
  size := Nat.le_trans h.size h'.size
  block := fun k hk hu => (h'.block k (Nat.lt_of_lt_of_le hk h.size) hu).trans (h.block k hk hu)
theorem KFr.drewN {U : Nat → Prop} (h : KFr U w w') (n : Nat) : KFr U w (w'.drewN n) := ⟨h.os, h.tape, h.output, h.size, h.block⟩
theorem KFr.set_ {U : Nat → Prop} (h : KFr U w w') {g j : Nat} (u : Value) (hg : U g) : KFr U w (w'.setCell ⟨g, j, none⟩ u) :=
  h.trans ⟨rfl, rfl, rfl, by simp, fun k hk hu => Below.heap_setCell w' _ u k (fun e => hu (e ▸ hg))⟩
end
end Go.Proofs.YtfplkmldleigpaaDoor
