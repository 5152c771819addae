/- The book of lists in memory: what it holds, which blocks it uses, what becomes of it step by step. No program in sight. Condition: none. -/
import Derived.Test.YtfplkmldleigpaaDoorK1
namespace Go.Proofs.YtfplkmldleigpaaDoor
open Go.RowKit
set_option linter.unusedVariables false

/-- the block that a slice owns: none where it has no room -/
def blkOf (A : Option Addr) (c : Nat) : Option Nat := if c = 0 then none else A.map (·.block)
/-- the slice owns its block whole, with its spare room, or has no room at all -/
def Kept (w : World) (base : Nat) (e : TypeId) (sz : Nat) (A : Option Addr) (n c : Nat) (cs : List Value) : Prop :=
  cs.length = n * sz ∧ ((c = 0 ∧ n = 0) ∨
    ∃ g cur, A = some ⟨g, 0, none⟩ ∧ base ≤ g ∧ w.heap[g]? = some (.cells cur e (0, 0)) ∧ 0 < c ∧ n ≤ c ∧ c ≤ maxLen ∧ c * sz ≤ cur.size ∧ cur.toList.take (n * sz) = cs)

section
variable {w w' : World} {base sz n c : Nat} {e : TypeId} {A : Option Addr} {cs : List Value}
theorem Kept.of_own (h : w.ownsRow base e sz (.slice A n c) n cs) : Kept w base e sz A n c cs := by
  refine ⟨h.1, ?_⟩
  rcases h.2 with ⟨hv, h0⟩ | ⟨g, cap, cur, hv, h2, h3, h4, h5, h6, h7⟩
  · injection hv with _ _ hc
    exact .inl ⟨hc, h0⟩
  · injection hv with h1 _ hc
    subst h1
    subst hc
    rcases Nat.eq_zero_or_pos c with h0 | h0
    · exact .inl ⟨h0, by omega⟩
    · exact .inr ⟨g, cur, rfl, h2, h3, h0, h4, h5, Nat.le_of_eq h6.symm, h7⟩
/-- s[:n:n] of a slice of the call's own -/
theorem Kept.cut (h : w.ownsRow base e sz (.slice A n c) n cs) : Kept w base e sz A n n cs := by
  refine ⟨h.1, ?_⟩
  rcases h.2 with ⟨hv, h0⟩ | ⟨g, cap, cur, hv, h2, h3, h4, h5, h6, h7⟩
  · exact .inl ⟨h0, h0⟩
  · injection hv with h1 _ hc
    subst h1
    subst hc
    rcases Nat.eq_zero_or_pos n with h0 | h0
    · exact .inl ⟨h0, h0⟩
    · exact .inr ⟨g, cur, rfl, h2, h3, h0, Nat.le_refl _, Nat.le_trans h4 h5, h6 ▸ Nat.mul_le_mul_right _ h4, h7⟩
theorem Kept.more (h : Kept w base e sz A n c cs) {base' : Nat} (hb : base' ≤ base) : Kept w base' e sz A n c cs :=
  ⟨h.1, h.2.imp id fun ⟨g, cur, h1, h2, h3⟩ => ⟨g, cur, h1, Nat.le_trans hb h2, h3⟩⟩
theorem Kept.lt (h : Kept w base e sz A n c cs) : ∀ k, blkOf A c = some k → base ≤ k ∧ k < w.heap.size := by
  intro k hk
  rcases h.2 with ⟨rfl, _⟩ | ⟨g, cur, rfl, hb, hg, hc, _⟩
  · simp [blkOf] at hk
  · have h0 : ¬ c = 0 := by omega
    simp [blkOf, h0] at hk
    subst hk
    exact ⟨hb, (Array.getElem?_eq_some_iff.1 hg).1⟩
theorem Kept.keep (h : Kept w base e sz A n c cs) (hk : ∀ k, blkOf A c = some k → w'.heap[k]? = w.heap[k]?) : Kept w' base e sz A n c cs := by
  refine ⟨h.1, ?_⟩
  rcases h.2 with hn | ⟨g, cur, rfl, hb, hg, hc, rest⟩
  · exact .inl hn
  · have h0 : ¬ c = 0 := by omega
    exact .inr ⟨g, cur, rfl, hb, (hk g (by simp [blkOf, h0])).trans hg, hc, rest⟩
theorem Kept.sl (h : Kept w base e sz A n c cs) : Sl w w.heap.size sz A n cs := by
  refine ⟨h.1, fun hn => ?_⟩
  rcases h.2 with ⟨_, h0⟩ | ⟨g, cur, rfl, _, hg, _, _, _, _, ht⟩
  · omega
  · refine ⟨g, 0, rfl, (Array.getElem?_eq_some_iff.1 hg).1, fun j u hu => ?_⟩
    rw [cell_of_row w g (0 + j) cur e (0, 0) hg]
    rw [← ht, List.getElem?_take] at hu
    split at hu
    · simpa using hu
    · cases hu
theorem Kept.le (h : Kept w base e sz A n c cs) : n ≤ c ∧ c ≤ maxLen := by
  rcases h.2 with ⟨rfl, rfl⟩ | ⟨g, cur, rfl, _, _, _, h1, h2, _⟩
  · exact ⟨Nat.le_refl _, Nat.zero_le _⟩
  · exact ⟨h1, h2⟩
end

/-- a list in the book, and its copy -/
structure Ent where
  A : Option Addr
  n : Nat
  c : Nat
  cs : List Value
  A' : Option Addr
  c' : Nat
def Ent.v (x : Ent) : Value := .slice x.A x.n x.c
def Ent.was (x : Ent) : Value := .slice x.A' x.n x.c'
def EntOk (w : World) (base : Nat) (e : TypeId) (sz : Nat) (x : Ent) : Prop := Kept w base e sz x.A x.n x.c x.cs ∧ Kept w base e sz x.A' x.n x.c' x.cs

/-- the book at block gB: its two rows of slices, the lists themselves, each in a block of its own -/
structure Bk (w : World) (tB tS e : TypeId) (sz gB : Nat) (v1 v2 : Value) (n1 n2 : Nat) (xs1 xs2 : List Value) (h : Int) (es : List Ent) : Prop where
  blk : Blk w gB tB [v1, v2, .int .i64 h, .bool false]
  lists : Row w (gB + 1) tS v1 n1 xs1
  was : Row w (gB + 1) tS v2 n2 xs2
  ents : ∀ x ∈ es, EntOk w (gB + 1) e sz x
  rows : ∀ k, v1.ownBlock = some k → v2.ownBlock ≠ some k
  off : ∀ x ∈ es, ∀ k, blkOf x.A x.c = some k ∨ blkOf x.A' x.c' = some k → v1.ownBlock ≠ some k ∧ v2.ownBlock ≠ some k
  apart : es.Pairwise fun x y => ∀ k, blkOf x.A x.c = some k → blkOf y.A y.c ≠ some k

/-- the world has turned in the book's own blocks alone -/
structure BFr (gB : Nat) (o1 o2 : Option Nat) (w : World) (o1' o2' : Option Nat) (w' : World) : Prop where
  os : w'.os = w.os
  tape : w'.tape = w.tape
  output : w'.output = w.output
  size : w.heap.size ≤ w'.heap.size
  block : ∀ k, k < w.heap.size → k ≠ gB → o1 ≠ some k → o2 ≠ some k → w'.heap[k]? = w.heap[k]?
  own : ∀ k, k < w.heap.size → o1' = some k ∨ o2' = some k → o1 = some k ∨ o2 = some k

section
variable {gB : Nat} {o1 o2 o1' o2' o1'' o2'' : Option Nat} {w w' w'' : World}
theorem BFr.refl (gB : Nat) (o1 o2 : Option Nat) (w : World) : BFr gB o1 o2 w o1 o2 w := ⟨rfl, rfl, rfl, Nat.le_refl _, fun _ _ _ _ _ => rfl, fun _ _ h => h⟩
theorem BFr.trans (h : BFr gB o1 o2 w o1' o2' w') (h' : BFr gB o1' o2' w' o1'' o2'' w'') : BFr gB o1 o2 w o1'' o2'' w'' where
  os := h'.os.trans h.os
  tape := h'.tape.trans h.tape
  output := h'.output.trans h.output
  size := Nat.le_trans h.size h'.size
  block := fun k hk h0 h1 h2 => by
    have hn : ∀ o, o = o1' ∨ o = o2' → o ≠ some k := fun o ho e => by
      have := h.own k hk (by rcases ho with rfl | rfl <;> simp [e])
      rcases this with e1 | e1
      · exact h1 e1
      · exact h2 e1
    exact (h'.block k (Nat.lt_of_lt_of_le hk h.size) h0 (hn _ (.inl rfl)) (hn _ (.inr rfl))).trans (h.block k hk h0 h1 h2)
  own := fun k hk ho => h.own k hk (h'.own k (Nat.lt_of_lt_of_le hk h.size) ho)
theorem BFr.below (h : BFr gB o1 o2 w o1' o2' w') (h1 : ∀ k, o1 = some k → gB ≤ k) (h2 : ∀ k, o2 = some k → gB ≤ k) (hz : gB ≤ w.heap.size) : Below gB w w' :=
  ⟨h.os, h.tape, h.output, h.size, fun k hk => h.block k (by omega) (by omega) (fun e => by have := h1 k e; omega) (fun e => by have := h2 k e; omega)⟩
theorem BFr.drewN (h : BFr gB o1 o2 w o1' o2' w') (n : Nat) : BFr gB o1 o2 w o1' o2' (w'.drewN n) := ⟨h.os, h.tape, h.output, h.size, h.block, h.own⟩
theorem BFr.alloc (h : BFr gB o1 o2 w o1' o2' w') (o : Obj) : BFr gB o1 o2 w o1' o2' (w'.alloc o) :=
  h.trans ⟨rfl, rfl, rfl, by simp, fun k hk _ _ _ => Below.heap_alloc w' o k hk, fun _ _ h => h⟩
theorem BFr.setB (h : BFr gB o1 o2 w o1' o2' w') (i : Nat) (u : Value) : BFr gB o1 o2 w o1' o2' (w'.setCell ⟨gB, i, none⟩ u) :=
  h.trans ⟨rfl, rfl, rfl, by simp, fun k hk h0 _ _ => Below.heap_setCell w' _ u k h0, fun _ _ h => h⟩
theorem BFr.grown0 (h : BFr gB o1 o2 w o1' o2' w') (hg : w'.grownBy w'' none) : BFr gB o1 o2 w o1' o2' w'' :=
  h.trans ⟨hg.os, hg.tape, hg.output, hg.size, fun k hk _ _ _ => hg.block k hk (by simp), fun _ _ h => h⟩
theorem BFr.grown1 (h : BFr gB o1 o2 w o1' o2' w') (hg : w'.grownBy w'' o1') (ho : ∀ k, o1'' = some k → o1' = some k ∨ w'.heap.size ≤ k) : BFr gB o1 o2 w o1'' o2' w'' :=
  h.trans ⟨hg.os, hg.tape, hg.output, hg.size, fun k hk _ h1 _ => hg.block k hk (fun e => h1 e.symm), fun k hk hh => by
    rcases hh with e | e
    · rcases ho k e with e' | e'
      · exact .inl e'
      · omega
    · exact .inr e⟩
theorem BFr.grown2 (h : BFr gB o1 o2 w o1' o2' w') (hg : w'.grownBy w'' o2') (ho : ∀ k, o2'' = some k → o2' = some k ∨ w'.heap.size ≤ k) : BFr gB o1 o2 w o1' o2'' w'' :=
  h.trans ⟨hg.os, hg.tape, hg.output, hg.size, fun k hk _ _ h2 => hg.block k hk (fun e => h2 e.symm), fun k hk hh => by
    rcases hh with e | e
    · exact .inl e
    · rcases ho k e with e' | e'
      · exact .inr e'
      · omega⟩
end

section
variable {w w' : World} {tB tS e : TypeId} {sz gB : Nat} {v1 v2 : Value} {n1 n2 : Nat} {xs1 xs2 : List Value} {h : Int} {es : List Ent}

/-- the blocks that the book uses -/
def Bk.Used (gB : Nat) (v1 v2 : Value) (es : List Ent) (k : Nat) : Prop :=
  k = gB ∨ v1.ownBlock = some k ∨ v2.ownBlock = some k ∨ ∃ x ∈ es, blkOf x.A x.c = some k ∨ blkOf x.A' x.c' = some k
theorem Bk.used_lt (b : Bk w tB tS e sz gB v1 v2 n1 n2 xs1 xs2 h es) {k : Nat} (hk : Bk.Used gB v1 v2 es k) : gB ≤ k ∧ k < w.heap.size := by
  rcases hk with rfl | h1 | h2 | ⟨x, hx, h3 | h3⟩
  · exact ⟨Nat.le_refl _, b.blk.lt⟩
  · have := b.lists.lt k h1; omega
  · have := b.was.lt k h2; omega
  · have := (b.ents x hx).1.lt k h3; omega
  · have := (b.ents x hx).2.lt k h3; omega
theorem Bk.keep (b : Bk w tB tS e sz gB v1 v2 n1 n2 xs1 xs2 h es) (hk : ∀ k, Bk.Used gB v1 v2 es k → w'.heap[k]? = w.heap[k]?) : Bk w' tB tS e sz gB v1 v2 n1 n2 xs1 xs2 h es where
  blk := (hk gB (.inl rfl)).trans b.blk
  lists := b.lists.keep fun k e => hk k (.inr (.inl e))
  was := b.was.keep fun k e => hk k (.inr (.inr (.inl e)))
  ents := fun x hx => ⟨(b.ents x hx).1.keep fun k e => hk k (.inr (.inr (.inr ⟨x, hx, .inl e⟩))), (b.ents x hx).2.keep fun k e => hk k (.inr (.inr (.inr ⟨x, hx, .inr e⟩)))⟩
  rows := b.rows
  off := b.off
  apart := b.apart
theorem Bk.below (b : Bk w tB tS e sz gB v1 v2 n1 n2 xs1 xs2 h es) (hb : Below w.heap.size w w') : Bk w' tB tS e sz gB v1 v2 n1 n2 xs1 xs2 h es :=
  b.keep fun k hk => hb.block k (b.used_lt hk).2
theorem Bk.alloc (b : Bk w tB tS e sz gB v1 v2 n1 n2 xs1 xs2 h es) (o : Obj) : Bk (w.alloc o) tB tS e sz gB v1 v2 n1 n2 xs1 xs2 h es := b.keep fun k hk => Below.heap_alloc w o k (b.used_lt hk).2
theorem Bk.drewN (b : Bk w tB tS e sz gB v1 v2 n1 n2 xs1 xs2 h es) (n : Nat) : Bk (w.drewN n) tB tS e sz gB v1 v2 n1 n2 xs1 xs2 h es := b.keep fun k hk => rfl
theorem Bk.drew (b : Bk w tB tS e sz gB v1 v2 n1 n2 xs1 xs2 h es) : Bk w.drew tB tS e sz gB v1 v2 n1 n2 xs1 xs2 h es := b.keep fun k hk => rfl
theorem Bk.grown0 (b : Bk w tB tS e sz gB v1 v2 n1 n2 xs1 xs2 h es) (hg : w.grownBy w' none) : Bk w' tB tS e sz gB v1 v2 n1 n2 xs1 xs2 h es := b.keep fun k hk => hg.block k (b.used_lt hk).2 (by simp)
/-- a store into one of its own four cells -/
theorem Bk.set_ (b : Bk w tB tS e sz gB v1 v2 n1 n2 xs1 xs2 h es) {v1' v2' : Value} {h' : Int} (i : Nat) (u : Value)
    (hs : [v1, v2, Value.int .i64 h, .bool false].set i u = [v1', v2', .int .i64 h', .bool false]) {m1 m2 : Nat} {ys1 ys2 : List Value}
    (r1 : Row w (gB + 1) tS v1' m1 ys1) (r2 : Row w (gB + 1) tS v2' m2 ys2) (e1 : v1'.ownBlock = v1.ownBlock) (e2 : v2'.ownBlock = v2.ownBlock) :
    Bk (w.setCell ⟨gB, i, none⟩ u) tB tS e sz gB v1' v2' m1 m2 ys1 ys2 h' es where
  blk := hs ▸ b.blk.set_ i u
  lists := r1.keep fun k hk => Below.heap_setCell w _ u k (by have := r1.lt k hk; simp; omega)
  was := r2.keep fun k hk => Below.heap_setCell w _ u k (by have := r2.lt k hk; simp; omega)
  ents := fun x hx => ⟨(b.ents x hx).1.keep fun k hk => Below.heap_setCell w _ u k (by have := (b.ents x hx).1.lt k hk; simp; omega), (b.ents x hx).2.keep fun k hk => Below.heap_setCell w _ u k (by have := (b.ents x hx).2.lt k hk; simp; omega)⟩
  rows := by rw [e1, e2]; exact b.rows
  off := by rw [e1, e2]; exact b.off
  apart := b.apart
/-- the first row has grown, and its new slice is stored -/
theorem Bk.push1 (b : Bk w tB tS e sz gB v1 v2 n1 n2 xs1 xs2 h es) {v1' : Value} {m1 : Nat} {ys1 : List Value} (hg : w.grownBy w' v1.ownBlock) (r1 : Row w' (gB + 1) tS v1' m1 ys1) (ho : ∀ k, v1'.ownBlock = some k → v1.ownBlock = some k ∨ w.heap.size ≤ k) :
    Bk (w'.setCell ⟨gB, 0, none⟩ v1') tB tS e sz gB v1' v2 m1 n2 ys1 xs2 h es := by
  have hgB : some gB ≠ v1.ownBlock := fun e => by have := b.lists.lt gB e.symm; omega
  have blk' : Blk w' gB tB [v1, v2, .int .i64 h, .bool false] := b.blk.grown hg hgB
  have w2 : Row w' (gB + 1) tS v2 n2 xs2 := b.was.keep fun k hk => hg.block k (b.was.lt k hk).2 (fun e => b.rows k e.symm hk)
  have en : ∀ x ∈ es, EntOk w' (gB + 1) e sz x := fun x hx =>
    ⟨(b.ents x hx).1.keep fun k hk => hg.block k ((b.ents x hx).1.lt k hk).2 (fun e => (b.off x hx k (.inl hk)).1 e.symm), (b.ents x hx).2.keep fun k hk => hg.block k ((b.ents x hx).2.lt k hk).2 (fun e => (b.off x hx k (.inr hk)).1 e.symm)⟩
  refine ⟨blk'.set_ 0 v1', r1.keep fun k hk => Below.heap_setCell w' _ _ k (by have := r1.lt k hk; simp; omega), w2.keep fun k hk => Below.heap_setCell w' _ _ k (by have := w2.lt k hk; simp; omega), fun x hx => ⟨(en x hx).1.keep fun k hk => Below.heap_setCell w' _ _ k (by have := (en x hx).1.lt k hk; simp; omega), (en x hx).2.keep fun k hk => Below.heap_setCell w' _ _ k (by have := (en x hx).2.lt k hk; simp; omega)⟩, fun k hk => ?_, fun x hx k hk => ⟨fun e1 => ?_, (b.off x hx k hk).2⟩, b.apart⟩
  · rcases ho k hk with h1 | h1
    · exact b.rows k h1
    · exact fun h2 => by have := (b.was.lt k h2).2; omega
  · rcases ho k e1 with h1 | h1
    · exact (b.off x hx k hk).1 h1
    · have := b.used_lt (k := k) (.inr (.inr (.inr ⟨x, hx, hk⟩))); omega
/-- the second row has grown, and its new slice is stored -/
theorem Bk.push2 (b : Bk w tB tS e sz gB v1 v2 n1 n2 xs1 xs2 h es) {v2' : Value} {m2 : Nat} {ys2 : List Value} (hg : w.grownBy w' v2.ownBlock) (r2 : Row w' (gB + 1) tS v2' m2 ys2) (ho : ∀ k, v2'.ownBlock = some k → v2.ownBlock = some k ∨ w.heap.size ≤ k) :
    Bk (w'.setCell ⟨gB, 1, none⟩ v2') tB tS e sz gB v1 v2' n1 m2 xs1 ys2 h es := by
  have hgB : some gB ≠ v2.ownBlock := fun e => by have := b.was.lt gB e.symm; omega
  have blk' : Blk w' gB tB [v1, v2, .int .i64 h, .bool false] := b.blk.grown hg hgB
  have w1 : Row w' (gB + 1) tS v1 n1 xs1 := b.lists.keep fun k hk => hg.block k (b.lists.lt k hk).2 (fun e => b.rows k hk e.symm)
  have en : ∀ x ∈ es, EntOk w' (gB + 1) e sz x := fun x hx =>
    ⟨(b.ents x hx).1.keep fun k hk => hg.block k ((b.ents x hx).1.lt k hk).2 (fun e => (b.off x hx k (.inl hk)).2 e.symm), (b.ents x hx).2.keep fun k hk => hg.block k ((b.ents x hx).2.lt k hk).2 (fun e => (b.off x hx k (.inr hk)).2 e.symm)⟩
  refine ⟨blk'.set_ 1 v2', w1.keep fun k hk => Below.heap_setCell w' _ _ k (by have := w1.lt k hk; simp; omega), r2.keep fun k hk => Below.heap_setCell w' _ _ k (by have := r2.lt k hk; simp; omega), fun x hx => ⟨(en x hx).1.keep fun k hk => Below.heap_setCell w' _ _ k (by have := (en x hx).1.lt k hk; simp; omega), (en x hx).2.keep fun k hk => Below.heap_setCell w' _ _ k (by have := (en x hx).2.lt k hk; simp; omega)⟩, fun k hk => ?_, fun x hx k hk => ⟨(b.off x hx k hk).1, fun e1 => ?_⟩, b.apart⟩
  · intro h1
    rcases ho k h1 with h2 | h2
    · exact b.rows k hk h2
    · have := (b.lists.lt k hk).2; omega
  · rcases ho k e1 with h1 | h1
    · exact (b.off x hx k hk).2 h1
    · have := b.used_lt (k := k) (.inr (.inr (.inr ⟨x, hx, hk⟩))); omega
/-- one list more -/
theorem Bk.add (b : Bk w tB tS e sz gB v1 v2 n1 n2 xs1 xs2 h es) {x : Ent} (hx : EntOk w (gB + 1) e sz x) (h1 : ∀ k, blkOf x.A x.c = some k → ¬ Bk.Used gB v1 v2 es k)
    (h2 : ∀ k, blkOf x.A' x.c' = some k → v1.ownBlock ≠ some k ∧ v2.ownBlock ≠ some k) : Bk w tB tS e sz gB v1 v2 n1 n2 xs1 xs2 h (es ++ [x]) where
  blk := b.blk
  lists := b.lists
  was := b.was
  ents := fun y hy => by
    rcases List.mem_append.1 hy with hy | hy
    · exact b.ents y hy
    · obtain rfl := List.mem_singleton.1 hy; exact hx
  rows := b.rows
  off := fun y hy k hk => by
    rcases List.mem_append.1 hy with hy | hy
    · exact b.off y hy k hk
    · obtain rfl := List.mem_singleton.1 hy
      rcases hk with hk | hk
      · exact ⟨fun e => h1 k hk (.inr (.inl e)), fun e => h1 k hk (.inr (.inr (.inl e)))⟩
      · exact h2 k hk
  apart := by
    refine List.pairwise_append.2 ⟨b.apart, List.pairwise_singleton _ _, fun y hy z hz k hk hk' => ?_⟩
    obtain rfl := List.mem_singleton.1 hz
    exact h1 k hk' (.inr (.inr (.inr ⟨y, hy, .inl hk⟩)))
/-- the last list's copy is another one -/
theorem Bk.copy {x : Ent} (b : Bk w tB tS e sz gB v1 v2 n1 n2 xs1 xs2 h (es ++ [x])) {A' : Option Addr} {c' : Nat} (hx : Kept w (gB + 1) e sz A' x.n c' x.cs)
    (h2 : ∀ k, blkOf A' c' = some k → v1.ownBlock ≠ some k ∧ v2.ownBlock ≠ some k) : Bk w tB tS e sz gB v1 v2 n1 n2 xs1 xs2 h (es ++ [⟨x.A, x.n, x.c, x.cs, A', c'⟩]) where
  blk := b.blk
  lists := b.lists
  was := b.was
  ents := fun y hy => by
    rcases List.mem_append.1 hy with hy | hy
    · exact b.ents y (List.mem_append_left _ hy)
    · obtain rfl := List.mem_singleton.1 hy; exact ⟨(b.ents x (by simp)).1, hx⟩
  rows := b.rows
  off := fun y hy k hk => by
    rcases List.mem_append.1 hy with hy | hy
    · exact b.off y (List.mem_append_left _ hy) k hk
    · obtain rfl := List.mem_singleton.1 hy
      rcases hk with hk | hk
      · exact b.off x (by simp) k (.inl hk)
      · exact h2 k hk
  apart := by
    obtain ⟨h1, h2, h3⟩ := List.pairwise_append.1 b.apart
    exact List.pairwise_append.2 ⟨h1, List.pairwise_singleton _ _, fun y hy z hz k hk => by obtain rfl := List.mem_singleton.1 hz; exact h3 y hy x (by simp) k hk⟩
/-- the first list is let go -/
theorem Bk.tail {x : Ent} (b : Bk w tB tS e sz gB v1 v2 n1 n2 xs1 xs2 h (x :: es)) : Bk w tB tS e sz gB v1 v2 n1 n2 xs1 xs2 h es where
  blk := b.blk
  lists := b.lists
  was := b.was
  ents := fun y hy => b.ents y (List.mem_cons_of_mem _ hy)
  rows := b.rows
  off := fun y hy => b.off y (List.mem_cons_of_mem _ hy)
  apart := (List.pairwise_cons.1 b.apart).2
end
/-- the book, closed: as many slices in each row as there are lists -/
def Book (w : World) (tB tS e : TypeId) (sz gB : Nat) (A1 : Option Addr) (c1 : Nat) (A2 : Option Addr) (c2 : Nat) (h : Int) (es : List Ent) : Prop :=
  Bk w tB tS e sz gB (.slice A1 es.length c1) (.slice A2 es.length c2) es.length es.length (es.map Ent.v) (es.map Ent.was) h es
end Go.Proofs.YtfplkmldleigpaaDoor
