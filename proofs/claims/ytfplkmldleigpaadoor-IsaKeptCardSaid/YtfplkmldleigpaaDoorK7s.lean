/- The book's last look: each list is written full with marks of its own, sz cells an element; no other list is touched. No program in sight. Condition: none. -/
import Derived.Test.YtfplkmldleigpaaDoorK7
import Derived.Test.YtfplkmldleigpaaDoorM2
namespace Go.Proofs.YtfplkmldleigpaaDoor.wide
open Go.RowKit
set_option linter.unusedVariables false

/-- the list has no room, or a block of its own that is as long as its room at least -/
def Wide (w : World) (e : TypeId) (sz gB : Nat) (x : Ent) : Prop :=
  x.n ≤ x.c ∧ x.c ≤ maxLen ∧ (x.c = 0 ∨ ∃ g cur, x.A = some ⟨g, 0, none⟩ ∧ gB + 1 ≤ g ∧ w.heap[g]? = some (.cells cur e (0, 0)) ∧ x.c * sz ≤ cur.size)
def Marked (w : World) (sz : Nat) (mk : Nat → Nat → List Value) (k : Nat) (x : Ent) (m : Nat) : Prop := ∀ j, j < m → ∃ g, x.A = some ⟨g, 0, none⟩ ∧ ∀ t u, (mk k j)[t]? = some u → w.cell? ⟨g, j * sz + t, none⟩ = some u
/-- the first i lists are marked whole, the next one at its first j places -/
structure Fl (w : World) (tB tS e : TypeId) (sz gB : Nat) (A1 : Option Addr) (c1 N : Nat) (v2 : Value) (h : Int) (es : List Ent) (mk : Nat → Nat → List Value) (i j : Nat) : Prop where
  len : es.length = N
  blk : Blk w gB tB [.slice A1 N c1, v2, .int .i64 h, .bool false]
  row : Row w (gB + 1) tS (.slice A1 N c1) N (es.map Ent.v)
  wide : ∀ x ∈ es, Wide w e sz gB x
  off : ∀ x ∈ es, ∀ k, blkOf x.A x.c = some k → Value.ownBlock (.slice A1 N c1) ≠ some k
  apart : ∀ (a b : Nat) (x y : Ent), a < b → es[a]? = some x → es[b]? = some y → ∀ k, blkOf x.A x.c = some k → blkOf y.A y.c ≠ some k
  done : ∀ k x, k < i → es[k]? = some x → Marked w sz mk k x x.c
  now : ∀ x, es[i]? = some x → Marked w sz mk i x j

theorem heap_setCells (w : World) (vs : List Value) (g : Nat) {k : Nat} (hk : k ≠ g) : ∀ o : Nat, (w.setCells g o vs).heap[k]? = w.heap[k]? := by
  induction vs generalizing w with
  | nil => intro o; rfl
  | cons v r ih => intro o; exact (ih (w.setCell ⟨g, o, none⟩ v) (o + 1)).trans (Below.heap_setCell w _ v k hk)
theorem row_setCells : ∀ (vs : List Value) (w : World) (g o : Nat) (cur : Array Value) (e : TypeId), w.heap[g]? = some (.cells cur e (0, 0)) → o + vs.length ≤ cur.size →
    ∃ cur', (w.setCells g o vs).heap[g]? = some (.cells cur' e (0, 0)) ∧ cur'.size = cur.size ∧ ∀ t, (t < o ∨ o + vs.length ≤ t → cur'[t]? = cur[t]?) ∧ (o ≤ t → t < o + vs.length → cur'[t]? = vs[t - o]?)
  | [], w, g, o, cur, e, hg, _ => ⟨cur, hg, rfl, fun t => ⟨fun _ => rfl, fun h1 h2 => by simp at h2; omega⟩⟩
  | v :: r, w, g, o, cur, e, hg, hs => by
    rw [List.length_cons] at hs
    obtain ⟨cur', h1, h2, h3⟩ := row_setCells r (w.setCell ⟨g, o, none⟩ v) g (o + 1) (cur.setIfInBounds o v) e (heap_setCell_same w g o cur e v hg) (by simp; omega)
    refine ⟨cur', h1, by simpa using h2, fun t => ⟨fun ht => ?_, fun ht1 ht2 => ?_⟩⟩
    · rw [List.length_cons] at ht
      rw [(h3 t).1 (by omega), Array.getElem?_setIfInBounds_ne (by omega)]
    · rw [List.length_cons] at ht2
      by_cases he : t = o
      · subst he
        rw [(h3 t).1 (by omega), Array.getElem?_setIfInBounds_self_of_lt (by omega), Nat.sub_self]
        rfl
      · rw [(h3 t).2 (by omega) (by omega), show t - o = t - (o + 1) + 1 by omega]
        rfl
section
variable {w w' : World} {tB tS e : TypeId} {sz gB : Nat} {A1 : Option Addr} {c1 N : Nat} {v2 : Value} {h : Int} {es : List Ent} {mk : Nat → Nat → List Value} {i j : Nat}

theorem Kept.wide {base : Nat} {x : Ent} (h : Kept w (gB + 1) e sz x.A x.n x.c x.cs) : Wide w e sz gB x := by
  refine ⟨h.le.1, h.le.2, ?_⟩
  rcases h.2 with ⟨h0, _⟩ | ⟨g, cur, hA, hb, hg, _, _, _, hs, _⟩
  · exact .inl h0
  · exact .inr ⟨g, cur, hA, hb, hg, by omega⟩
theorem Fl.start {xs2 : List Value} {n2 : Nat} (b : Bk w tB tS e sz gB (.slice A1 N c1) v2 N n2 (es.map Ent.v) xs2 h es) (hN : es.length = N) (mk : Nat → Nat → List Value) : Fl w tB tS e sz gB A1 c1 N v2 h es mk 0 0 where
  len := hN
  blk := b.blk
  row := b.lists
  wide := fun x hx => Kept.wide (base := 0) (b.ents x hx).1
  off := fun x hx k hk => (b.off x hx k (.inl hk)).1
  apart := fun a c x y hac hx hy k hk => by
    have := List.pairwise_iff_getElem.1 b.apart a c (List.getElem?_eq_some_iff.1 hx).1 (List.getElem?_eq_some_iff.1 hy).1 hac
    rw [(List.getElem?_eq_some_iff.1 hx).2, (List.getElem?_eq_some_iff.1 hy).2] at this
    exact this k hk
  done := fun k x hk => by omega
  now := fun x hx j hj => by omega
/-- one mark more -/
theorem Fl.store (f : Fl w tB tS e sz gB A1 c1 N v2 h es mk i j) {x : Ent} (hx : es[i]? = some x) (hj : j < x.c) (hmk' : ∀ i j, (mk i j).length = sz) {g : Nat} (hA : x.A = some ⟨g, 0, none⟩) :
    Fl (w.setCells g (j * sz) (mk i j)) tB tS e sz gB A1 c1 N v2 h es mk i (j + 1) := by
  have hxm := List.mem_of_getElem? hx
  have hml := hmk' i j
  have hxb : blkOf x.A x.c = some g := by rw [hA]; exact blkOf_some (by omega)
  have hw : gB + 1 ≤ g ∧ ∃ cur, w.heap[g]? = some (.cells cur e (0, 0)) ∧ x.c * sz ≤ cur.size := by
    obtain ⟨_, _, h0 | ⟨g', cur, hA', hb, hg, hs⟩⟩ := f.wide x hxm
    · omega
    · rw [hA] at hA'; injection hA' with hA'; injection hA' with e1; subst e1; exact ⟨hb, cur, hg, hs⟩
  obtain ⟨hgB, cur, hg, hs⟩ := hw
  have hfit : j * sz + sz ≤ cur.size := by
    have : (j + 1) * sz ≤ x.c * sz := Nat.mul_le_mul_right _ hj
    rw [Nat.add_mul, Nat.one_mul] at this
    omega
  have hoth : ∀ k, k ≠ g → (w.setCells g (j * sz) (mk i j)).heap[k]? = w.heap[k]? := fun k hk => heap_setCells w _ g hk _
  obtain ⟨cur', hself, hcs, hcget⟩ := row_setCells (mk i j) w g (j * sz) cur e hg (by omega)
  have hnew : ∀ t u, (mk i j)[t]? = some u → (w.setCells g (j * sz) (mk i j)).cell? ⟨g, j * sz + t, none⟩ = some u := fun t u hu => by
    rw [cell_of_row _ g _ _ e (0, 0) hself]
    have ht := (List.getElem?_eq_some_iff.1 hu).1
    have := (hcget (j * sz + t)).2 (by omega) (by omega)
    rw [this, Nat.add_sub_cancel_left]
    exact hu
  have hcell : ∀ k t u, (k ≠ g ∨ t < j * sz) → w.cell? ⟨k, t, none⟩ = some u → (w.setCells g (j * sz) (mk i j)).cell? ⟨k, t, none⟩ = some u := fun k t u hk hc => by
    by_cases hkg : k = g
    · subst hkg
      rw [cell_of_row w k t cur e (0, 0) hg] at hc
      rw [cell_of_row _ k t _ e (0, 0) hself, (hcget t).1 (by omega)]
      exact hc
    · exact (World.cell?_of_block (w := w) (a := ⟨k, t, none⟩) (hoth k hkg)).trans hc
  have hfar : ∀ k y, k < i → es[k]? = some y → ∀ b, blkOf y.A y.c = some b → b ≠ g := fun k y hk hy b hb e => f.apart k i y x hk hy hx b hb (e ▸ hxb)
  refine ⟨f.len, (hoth gB (by omega)).trans f.blk, f.row.keep fun k hk => hoth k (fun e => f.off x hxm g hxb (e ▸ hk)), fun y hy => ?_, f.off, f.apart, fun k y hk hy j' hj' => ?_, fun y hy j' hj' => ?_⟩
  · obtain ⟨a1, a2, h0 | ⟨g', cur1, hA', hb', hg', hs'⟩⟩ := f.wide y hy
    · exact ⟨a1, a2, .inl h0⟩
    · refine ⟨a1, a2, .inr ?_⟩
      by_cases e1 : g' = g
      · subst e1
        rw [hg] at hg'
        injection hg' with hg'
        injection hg' with hc
        subst hc
        exact ⟨g', _, hA', hb', hself, by omega⟩
      · exact ⟨g', cur1, hA', hb', (hoth g' e1).trans hg', hs'⟩
  · obtain ⟨g', hA', hc'⟩ := f.done k y hk hy j' hj'
    have hne := hfar k y hk hy g' (by rw [hA']; exact blkOf_some (by omega))
    exact ⟨g', hA', fun t u hu => hcell g' _ _ (.inl hne) (hc' t u hu)⟩
  · obtain rfl : y = x := by rw [hx] at hy; injection hy with hy; exact hy.symm
    by_cases hjj : j' = j
    · subst hjj
      exact ⟨g, hA, hnew⟩
    · obtain ⟨g', hA', hc'⟩ := f.now y hy j' (by omega)
      refine ⟨g', hA', fun t u hu => ?_⟩
      have ht := (List.getElem?_eq_some_iff.1 hu).1
      by_cases hgg : g' = g
      · have hlen : (mk i j').length = sz := hmk' i j'
        have : (j' + 1) * sz ≤ j * sz := Nat.mul_le_mul_right _ (by omega)
        rw [Nat.add_mul, Nat.one_mul] at this
        exact hcell g' _ _ (.inr (by omega)) (hc' t u hu)
      · exact hcell g' _ _ (.inl hgg) (hc' t u hu)
/-- the next list -/
theorem Fl.next (f : Fl w tB tS e sz gB A1 c1 N v2 h es mk i j) {x : Ent} (hx : es[i]? = some x) (hj : x.c ≤ j) : Fl w tB tS e sz gB A1 c1 N v2 h es mk (i + 1) 0 := by
  refine ⟨f.len, f.blk, f.row, f.wide, f.off, f.apart, fun k y hk hy => ?_, fun y hy j' hj' => by omega⟩
  by_cases hki : k = i
  · subst hki
    rw [hx] at hy
    injection hy with hy
    subst hy
    intro j' hj'
    exact f.now x hx j' (by omega)
  · exact f.done k y (by omega) hy
theorem Fl.keep (f : Fl w tB tS e sz gB A1 c1 N v2 h es mk i j) (hk : ∀ k : Nat, w'.heap[k]? = w.heap[k]?) : Fl w' tB tS e sz gB A1 c1 N v2 h es mk i j := by
  have hc : ∀ (g t : Nat) (u : Value), w.cell? ⟨g, t, none⟩ = some u → w'.cell? ⟨g, t, none⟩ = some u := fun g t u hu => (World.cell?_of_block (w := w) (a := ⟨g, t, none⟩) (hk g)).trans hu
  refine ⟨f.len, (hk gB).trans f.blk, f.row.keep fun k _ => hk k, fun x hx => ?_, f.off, f.apart, fun k y hki hy j' hj' => ?_, fun y hy j' hj' => ?_⟩
  · obtain ⟨a1, a2, h0 | ⟨g', cur', hA', hb', hg', hs'⟩⟩ := f.wide x hx
    · exact ⟨a1, a2, .inl h0⟩
    · exact ⟨a1, a2, .inr ⟨g', cur', hA', hb', (hk g').trans hg', hs'⟩⟩
  · obtain ⟨g', hA', hc'⟩ := f.done k y hki hy j' hj'
    exact ⟨g', hA', fun t u hu => hc _ _ _ (hc' t u hu)⟩
  · obtain ⟨g', hA', hc'⟩ := f.now y hy j' hj'
    exact ⟨g', hA', fun t u hu => hc _ _ _ (hc' t u hu)⟩
theorem Fl.below (f : Fl w tB tS e sz gB A1 c1 N v2 h es mk i j) (hb : Below w.heap.size w w') : Fl w' tB tS e sz gB A1 c1 N v2 h es mk i j := by
  have hk : ∀ k, k < w.heap.size → w'.heap[k]? = w.heap[k]? := hb.block
  have hc : ∀ (g t : Nat) (u : Value), w.cell? ⟨g, t, none⟩ = some u → w'.cell? ⟨g, t, none⟩ = some u := fun g t u hu => (World.cell?_of_block (w := w) (a := ⟨g, t, none⟩) (hk g (World.block_lt_of_cell? _ _ hu))).trans hu
  refine ⟨f.len, (hk gB f.blk.lt).trans f.blk, f.row.keep fun k e => hk k (f.row.lt k e).2, fun x hx => ?_, f.off, f.apart, fun k y hki hy j' hj' => ?_, fun y hy j' hj' => ?_⟩
  · obtain ⟨a1, a2, h0 | ⟨g', cur', hA', hb', hg', hs'⟩⟩ := f.wide x hx
    · exact ⟨a1, a2, .inl h0⟩
    · exact ⟨a1, a2, .inr ⟨g', cur', hA', hb', (hk g' (Array.getElem?_eq_some_iff.1 hg').1).trans hg', hs'⟩⟩
  · obtain ⟨g', hA', hc'⟩ := f.done k y hki hy j' hj'
    exact ⟨g', hA', fun t u hu => hc _ _ _ (hc' t u hu)⟩
  · obtain ⟨g', hA', hc'⟩ := f.now y hy j' hj'
    exact ⟨g', hA', fun t u hu => hc _ _ _ (hc' t u hu)⟩
theorem Fl.drewN (f : Fl w tB tS e sz gB A1 c1 N v2 h es mk i j) (n : Nat) : Fl (w.drewN n) tB tS e sz gB A1 c1 N v2 h es mk i j := f.keep fun _ => rfl
theorem Fl.ent (f : Fl w tB tS e sz gB A1 c1 N v2 h es mk i j) {k : Nat} (hk : k < N) : ∃ x, es[k]? = some x := ⟨es[k]'(by rw [f.len]; exact hk), List.getElem?_eq_getElem _⟩
/-- the slice of a list -/
theorem Fl.slice (f : Fl w tB tS e sz gB A1 c1 N v2 h es mk i j) {k : Nat} {x : Ent} (hx : es[k]? = some x) : ∃ b o, A1 = some ⟨b, o, none⟩ ∧ w.cell? ⟨b, o + k, none⟩ = some (.slice x.A x.n x.c) := by
  obtain ⟨b, o, hA, _, _, hc⟩ := f.row.at_ (k := k) (u := x.v) (by rw [List.getElem?_map, hx]; rfl)
  exact ⟨b, o, hA, hc⟩
end
end Go.Proofs.YtfplkmldleigpaaDoor.wide
