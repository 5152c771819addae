/- Words for the book of lists: a slice that owns a part of a block of the call's own; one element more behind it; its rest. Lists that were kept. No program in sight. Condition: none. -/
import Derived.Test.YtfplkmldleigpaaDoorM2
import Derived.Deep.Onto
namespace Go.Proofs.YtfplkmldleigpaaDoor
open Go.RowKit
set_option linter.unusedVariables false

/-- v is a slice of n cells that lies, with its room, within a block of the call's own (or nil) -/
def Row (w : World) (base : Nat) (e : TypeId) (v : Value) (n : Nat) (xs : List Value) : Prop :=
  xs.length = n ∧ ((v = .slice none 0 0 ∧ n = 0) ∨
    ∃ g o cap cur, v = .slice (some ⟨g, o, none⟩) n cap ∧ base ≤ g ∧ w.heap[g]? = some (.cells cur e (0, 0)) ∧ n ≤ cap ∧ cap ≤ maxLen ∧ o + cap ≤ cur.size ∧ ∀ j u, xs[j]? = some u → cur[o + j]? = some u)

section
variable {w w' : World} {base n : Nat} {e : TypeId} {v : Value} {xs : List Value}

theorem Row.nil_ (w : World) (base : Nat) (e : TypeId) : Row w base e (.slice none 0 0) 0 [] := ⟨rfl, .inl ⟨rfl, rfl⟩⟩
theorem Row.of_own (h : w.ownsRow base e 1 v n xs) : Row w base e v n xs := by
  refine ⟨by rw [h.1, Nat.mul_one], ?_⟩
  rcases h.2 with hn | ⟨g, cap, cur, h1, h2, h3, h4, h5, h6, h7⟩
  · exact .inl hn
  · refine .inr ⟨g, 0, cap, cur, h1, h2, h3, h4, h5, by omega, fun j u hu => ?_⟩
    rw [← h7, List.getElem?_take] at hu
    split at hu
    · rw [Nat.zero_add]; simpa using hu
    · cases hu
theorem Row.more (h : Row w base e v n xs) {base' : Nat} (hb : base' ≤ base) : Row w base' e v n xs :=
  ⟨h.1, h.2.imp id fun ⟨g, o, cap, cur, h1, h2, h3⟩ => ⟨g, o, cap, cur, h1, Nat.le_trans hb h2, h3⟩⟩
theorem Row.lt (h : Row w base e v n xs) : ∀ k, v.ownBlock = some k → base ≤ k ∧ k < w.heap.size := by
  intro k hk
  rcases h.2 with ⟨rfl, _⟩ | ⟨g, o, cap, cur, rfl, hb, hg, _⟩
  · simp [Value.ownBlock] at hk
  · simp [Value.ownBlock] at hk
    subst hk
    exact ⟨hb, (Array.getElem?_eq_some_iff.1 hg).1⟩
/-- it reads its own block alone -/
theorem Row.keep (h : Row w base e v n xs) (hk : ∀ k, v.ownBlock = some k → w'.heap[k]? = w.heap[k]?) : Row w' base e v n xs := by
  refine ⟨h.1, ?_⟩
  rcases h.2 with hn | ⟨g, o, cap, cur, rfl, hb, hgg, rest⟩
  · exact .inl hn
  · exact .inr ⟨g, o, cap, cur, rfl, hb, (hk g rfl).trans hgg, rest⟩
theorem Row.shape (h : Row w base e v n xs) : ∃ A c, v = .slice A n c ∧ n ≤ c := by
  rcases h.2 with ⟨rfl, rfl⟩ | ⟨g, o, cap, cur, rfl, _, _, hc, _⟩
  · exact ⟨none, 0, rfl, Nat.le_refl _⟩
  · exact ⟨_, cap, rfl, hc⟩
/-- as a slice that reads as these cells -/
theorem Row.sl {A : Option Addr} {c : Nat} (h : Row w base e (.slice A n c) n xs) : Sl w w.heap.size 1 A n xs := by
  refine ⟨by rw [h.1, Nat.mul_one], fun hn => ?_⟩
  rcases h.2 with ⟨hv, h0⟩ | ⟨g, o, cap, cur, hv, _, hg, _, _, _, ht⟩
  · omega
  · injection hv with h1 h2 h3
    subst h1
    exact ⟨g, o, rfl, (Array.getElem?_eq_some_iff.1 hg).1, fun j u hu => by rw [cell_of_row w g (o + j) cur e (0, 0) hg]; exact ht j u hu⟩
/-- v[1:] -/
theorem Row.rest {A : Option Addr} {c : Nat} {x : Value} (h : Row w base e (.slice A (n + 1) c) (n + 1) (x :: xs)) :
    Row w base e (.slice (if c = 1 then A else A.map (·.add 1)) n (c - 1)) n xs := by
  refine ⟨by have := h.1; simpa using this, ?_⟩
  rcases h.2 with ⟨hv, h0⟩ | ⟨g, o, cap, cur, hv, hb, hg, hc, hm, hs, ht⟩
  · omega
  · injection hv with h1 h2 h3
    subst h1
    subst h3
    by_cases h1 : c = 1
    · subst h1
      obtain rfl : n = 0 := by omega
      refine .inr ⟨g, o, 0, cur, by simp, hb, hg, Nat.le_refl _, Nat.zero_le _, by omega, fun j u hu => ?_⟩
      have := h.1
      have : xs = [] := List.eq_nil_of_length_eq_zero (by simpa using this)
      subst this
      simp at hu
    · refine .inr ⟨g, o + 1, c - 1, cur, by rw [if_neg h1, Option.map_some, add_flat], hb, hg, by omega, by omega, by omega, fun j u hu => ?_⟩
      have := ht (j + 1) u (by simpa using hu)
      rwa [show o + (j + 1) = o + 1 + j by omega] at this
theorem Row.restBlock {A : Option Addr} {c n m d : Nat} : Value.ownBlock (.slice (if c = 1 then A else A.map (·.add 1)) n d) = Value.ownBlock (.slice A m c) := by
  cases A with
  | none => simp [Value.ownBlock]
  | some a =>
    obtain ⟨b, o, s⟩ := a
    split
    · rfl
    · simp only [Option.map_some, Value.ownBlock, Option.some.injEq]
      unfold Addr.add
      split <;> rfl
end

section
variable {P : Program} (w : World)
theorem setCells_one (b o : Nat) (u : Value) : w.setCells b o [u] = w.setCell ⟨b, o, none⟩ u := rfl

/-- append(s, x) of one cell -/
theorem run_append_row (base : Nat) (t ty e : TypeId) (i : TypeInfo) (z : Value) (bytes : Nat) (ht : P.underlying t = some (.slice e)) (hi : P.info? e = some i) (hz : i.zero = some z)
    (hsize : i.size = 1) (hby : i.bytes = bytes) (hzs : z.cells.size = 1) (v : Value) (n : Nat) (xs : List Value) (hrow : Row w base e v n xs)
    (ad : Addr) (c : Nat) (u : Value) (hu : w.cell? (ad.add 0) = some u) (h1 : u.oneCell' = true) (h63 : n + 1 ≤ maxLen) (hbytes : (n + 1) * bytes ≤ 140737488355328) (hbase : base ≤ w.heap.size) :
    ∃ v' w', (Builtin.append_ #[t, t] ty #[v, .slice (some ad) 1 c]).run P w = .ok v' w' ∧ Row w' base e v' (n + 1) (xs ++ [u]) ∧ w.grownBy w' v.ownBlock ∧ (∀ k, v'.ownBlock = some k → v.ownBlock = some k ∨ w.heap.size ≤ k) := by
  have hnews : ∀ j x, [u][j]? = some x → w.cell? (ad.add j) = some x := by
    intro j x hx
    match j, hx with
    | 0, hx => simp at hx; subst hx; exact hu
  have hone : ∀ x ∈ [u], x.oneCell' = true := by intro x hx; simp at hx; subst hx; exact h1
  rcases hrow.2 with ⟨rfl, rfl⟩ | ⟨g, o, cap, cur, rfl, hb, hg, hc, hm, hs, hxs⟩
  · have hx0 : xs = [] := List.eq_nil_of_length_eq_zero hrow.1
    subst hx0
    obtain ⟨v', w', hrun, h2, h3, h4⟩ := run_append_own_at (P := P) w base t ty e i z 1 bytes ht hi hz hsize hby hzs (by omega) (.slice none 0 0) 0 [] (World.ownsRow_nil w base e 1) ad 1 c [u] rfl hnews hone h63 hbytes hbase
    refine ⟨v', w', hrun, Row.of_own h2, h3, fun k hk => ?_⟩
    rcases h4.2 with h | h
    · exact .inl (h ▸ hk)
    · rw [h] at hk; injection hk with hk; exact .inr (by omega)
  · by_cases hroom : n + 1 ≤ cap
    · have hlt : g < w.heap.size := (Array.getElem?_eq_some_iff.1 hg).1
      have hsome : ∀ j, j < [u].length → (w.cell? ⟨g, o + n * i.size + j, none⟩).isSome = true := by
        intro j hj
        simp at hj
        subst hj
        rw [hsize, cell_of_row w g _ cur e (0, 0) hg, Array.getElem?_eq_getElem (by omega)]
        rfl
      have hrun := run_append_room_cells (P := P) w t ty e i ht hi g o n cap ad 1 c [u] (by simp [hsize]) hnews hone hroom hsome (fun j _ => frozen_of_row w g _ cur e hg)
      rw [setCells_one] at hrun
      refine ⟨_, _, hrun, ⟨by simp [hrow.1], .inr ⟨g, o, cap, cur.setIfInBounds (o + n) u, rfl, hb, ?_, hroom, hm, by simpa using hs, fun j x hx => ?_⟩⟩, ?_, fun k hk => .inl hk⟩
      · rw [hsize, Nat.mul_one]
        exact heap_setCell_same w g (o + n) cur e u hg
      · have hxl := hrow.1
        rcases Nat.lt_or_ge j xs.length with h | h
        · rw [List.getElem?_append_left h] at hx
          rw [Array.getElem?_setIfInBounds_ne (by omega)]
          exact hxs j x hx
        · rw [List.getElem?_append_right h] at hx
          have : j = n := by have := (List.getElem?_eq_some_iff.1 hx).1; simp at this; omega
          subst this
          rw [hxl, Nat.sub_self] at hx
          simp at hx
          subst hx
          rw [Array.getElem?_setIfInBounds_self_of_lt (by omega)]
      · exact ⟨rfl, rfl, rfl, by simp, fun k hk hne => Below.heap_setCell w _ u k (by simp [Value.ownBlock] at hne ⊢; omega)⟩
    · have hlt : g < w.heap.size := (Array.getElem?_eq_some_iff.1 hg).1
      obtain ⟨v', w', hrun, h2, h3⟩ := run_append_arg_grows (P := P) w t ty e i z 1 bytes ht hi hz hsize hby hzs (by omega) ⟨g, o, none⟩ n cap xs (by rw [hrow.1, Nat.mul_one]) (fun j x hx => by
        rw [add_flat, cell_of_row w g _ cur e (0, 0) hg]; exact hxs j x hx) ad 1 c [u] rfl hnews (by omega) h63 hbytes
      exact ⟨v', w', hrun, (Row.of_own h2).more hbase, ⟨h3.os, h3.tape, h3.output, h3.size, fun k hk _ => h3.block k hk (by simp)⟩, fun k hk => .inr ((Row.of_own h2).lt k hk).1⟩
end
end Go.Proofs.YtfplkmldleigpaaDoor
