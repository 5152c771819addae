/- Words for memory: a slice that reads as a list of cells; an append whose source is such a slice. No program in sight. No condition. -/
import Derived.WalkKit
import Derived.RegionTactic
import Derived.Maps.AppendAt
import Derived.Deep.Draws
import Derived.Lib.Hide
namespace Go.Proofs.YtfplkmldleigpaaDoor
open Go.RowKit

theorem add_flat (b o k : Nat) : (⟨b, o, none⟩ : Addr).add k = ⟨b, o + k, none⟩ := by
  unfold Addr.add; split <;> simp_all

/-- the cells from a place on -/
def Has (w : World) (b o : Nat) (cs : List Value) : Prop := ∀ j u, cs[j]? = some u → w.cell? ⟨b, o + j, none⟩ = some u

/-- a slice of n elements of sz cells each, below block B, that holds just these cells -/
structure Sl (w : World) (B sz : Nat) (A : Option Addr) (n : Nat) (cs : List Value) : Prop where
  len : cs.length = n * sz
  at_ : 0 < n → ∃ b o, A = some ⟨b, o, none⟩ ∧ b < B ∧ Has w b o cs

section
variable {w w' : World} {B B' sz n : Nat} {A : Option Addr} {cs : List Value}

theorem Has.get {b o : Nat} (h : Has w b o cs) {k : Nat} (hk : k < cs.length) : w.cell? ⟨b, o + k, none⟩ = some cs[k] := h k _ (List.getElem?_eq_getElem hk)
theorem Has.keep {b o : Nat} (h : Has w b o cs) (hk : ∀ i, w'.cell? ⟨b, i, none⟩ = w.cell? ⟨b, i, none⟩) : Has w' b o cs := fun j u hu => (hk _).trans (h j u hu)

theorem Sl.nil_ (w : World) (B sz : Nat) (A : Option Addr) : Sl w B sz A 0 [] := ⟨by simp, fun h => absurd h (by omega)⟩
theorem Sl.get (h : Sl w B 1 A n cs) {k : Nat} (hk : k < n) : ∃ b o u, A = some ⟨b, o, none⟩ ∧ b < B ∧ cs[k]? = some u ∧ w.cell? ⟨b, o + k, none⟩ = some u := by
  obtain ⟨b, o, e, hb, hc⟩ := h.at_ (by omega)
  have hl : k < cs.length := by have := h.len; omega
  exact ⟨b, o, cs[k], e, hb, List.getElem?_eq_getElem hl, hc.get hl⟩
theorem Sl.keep (h : Sl w B sz A n cs) (hk : ∀ b i, b < B → w'.cell? ⟨b, i, none⟩ = w.cell? ⟨b, i, none⟩) : Sl w' B sz A n cs :=
  ⟨h.len, fun hn => by obtain ⟨b, o, e, hb, hc⟩ := h.at_ hn; exact ⟨b, o, e, hb, hc.keep fun i => hk b i hb⟩⟩
theorem Sl.more (h : Sl w B sz A n cs) (hB : B ≤ B') : Sl w B' sz A n cs :=
  ⟨h.len, fun hn => by obtain ⟨b, o, e, hb, hc⟩ := h.at_ hn; exact ⟨b, o, e, by omega, hc⟩⟩
theorem Sl.below (h : Sl w B sz A n cs) (hb : Below B w w') : Sl w' B sz A n cs := h.keep fun b i hp => hb.cell (p := ⟨b, i, none⟩) hp
theorem Sl.drew (h : Sl w B sz A n cs) : Sl w.drew B sz A n cs := h.keep fun _ _ _ => rfl
theorem Sl.drewN (h : Sl w B sz A n cs) (k : Nat) : Sl (w.drewN k) B sz A n cs := h.keep fun _ _ _ => rfl
theorem Sl.alloc (h : Sl w B sz A n cs) (hB : B ≤ w.heap.size) (o : Obj) : Sl (w.alloc o) B sz A n cs := h.keep fun b i hp => World.cell?_alloc_lt w o ⟨b, i, none⟩ (by show b < _; omega)
theorem Sl.setCell (h : Sl w B sz A n cs) {p : Addr} (hB : B ≤ p.block) (u : Value) : Sl (w.setCell p u) B sz A n cs :=
  h.keep fun b i hq => World.cell?_setCell_other w p ⟨b, i, none⟩ u (fun e => by subst e; simp at hB; omega)
theorem Sl.grown (h : Sl w B sz A n cs) {row : Option Nat} (hg : w.grownBy w' row) (hB : B ≤ w.heap.size) (hr : ∀ g, row = some g → B ≤ g) : Sl w' B sz A n cs :=
  h.keep fun b i hp => World.cell?_of_block (w := w) (a := ⟨b, i, none⟩) (hg.block b (by omega) (fun e => by have := hr _ e.symm; omega))
theorem Sl.of_own {base : Nat} {e : TypeId} {c : Nat} (h : w.ownsRow base e sz (.slice A n c) n cs) : Sl w w.heap.size sz A n cs := by
  refine ⟨h.1, fun hn => ?_⟩
  rcases h.2 with ⟨hv, h0⟩ | ⟨g, cap, cur, hv, _, hg, _, _, _, ht⟩
  · omega
  · injection hv with h1 h2 h3
    subst h1
    refine ⟨g, 0, rfl, (Array.getElem?_eq_some_iff.1 hg).1, fun j u hu => ?_⟩
    rw [cell_of_row w g (0 + j) cur e (0, 0) hg]
    rw [← ht, List.getElem?_take] at hu
    split at hu
    · simpa using hu
    · cases hu
/-- s[:k] -/
theorem Sl.front (h : Sl w B sz A n cs) {k : Nat} (hk : k ≤ n) : Sl w B sz A k (cs.take (k * sz)) := by
  refine ⟨by rw [List.length_take, h.len]; exact Nat.min_eq_left (Nat.mul_le_mul_right _ hk), fun hn => ?_⟩
  obtain ⟨b, o, e, hb, hc⟩ := h.at_ (by omega)
  refine ⟨b, o, e, hb, fun j u hu => hc j u ?_⟩
  rw [List.getElem?_take] at hu
  split at hu
  · exact hu
  · cases hu
/-- s[k:] -/
theorem Sl.back (h : Sl w B sz A n cs) {k cap : Nat} (hk : k ≤ n) (hc : n ≤ cap) :
    Sl w B sz (if cap = k then A else A.map (·.add (k * sz))) (n - k) (cs.drop (k * sz)) := by
  refine ⟨by rw [List.length_drop, h.len, Nat.sub_mul], fun hn => ?_⟩
  obtain ⟨b, o, rfl, hb, hcell⟩ := h.at_ (by omega)
  rw [if_neg (by omega)]
  refine ⟨b, o + k * sz, by rw [Option.map_some, add_flat], hb, fun j u hu => ?_⟩
  rw [Nat.add_assoc]
  exact hcell _ u (by rw [← hu, List.getElem?_drop])
end

/-- what is owned is a slice, with room for what it holds -/
theorem own_shape {w : World} {base sz n : Nat} {e : TypeId} {v : Value} {cs : List Value} (h : w.ownsRow base e sz v n cs) : ∃ A c, v = .slice A n c ∧ n ≤ c := by
  rcases h.2 with ⟨rfl, rfl⟩ | ⟨g, cap, cur, rfl, _, _, hc, _⟩
  · exact ⟨none, 0, rfl, Nat.le_refl _⟩
  · exact ⟨_, cap, rfl, hc⟩
/-- one new cell -/
theorem sl_one (w : World) (v : Value) (t : TypeId) : Sl (w.alloc (.cells #[v] t)) (w.heap.size + 1) 1 (some ⟨w.heap.size, 0, none⟩) 1 [v] := by
  refine ⟨rfl, fun _ => ⟨_, 0, rfl, Nat.lt_succ_self _, fun j u hu => ?_⟩⟩
  match j, hu with
  | 0, hu =>
    simp at hu
    subst hu
    simp
/-- a new block, whole -/
theorem sl_new (w : World) (cs : List Value) (sz n : Nat) (hn : cs.length = n * sz) (t : TypeId) : Sl (w.alloc (.cells cs.toArray t)) (w.heap.size + 1) sz (some ⟨w.heap.size, 0, none⟩) n cs := by
  refine ⟨hn, fun _ => ⟨_, 0, rfl, Nat.lt_succ_self _, fun j u hu => ?_⟩⟩
  rw [World.cell?_alloc_new]
  simpa using hu
theorem own_nil (w : World) (base : Nat) (e : TypeId) (sz : Nat) : w.ownsRow base e sz (.slice none 0 0) 0 [] := ⟨by simp, .inl ⟨rfl, rfl⟩⟩
/-- the empty slice of a literal -/
theorem own_empty (w : World) (e : TypeId) (sz : Nat) : (w.alloc (.cells #[] e)).ownsRow w.heap.size e sz (.slice (some ⟨w.heap.size, 0, none⟩) 0 0) 0 [] :=
  ⟨by simp, .inr ⟨w.heap.size, 0, #[], rfl, Nat.le_refl _, heap_alloc_new w _, Nat.le_refl _, Nat.zero_le _, by simp, by simp⟩⟩

section
variable {P : Program} (w : World)

theorem run_app_nil (base : Nat) (t ty e : TypeId) (i : TypeInfo) (size : Nat) (ht : P.underlying t = some (.slice e)) (hi : P.info? e = some i)
    (v : Value) (n : Nat) (xs : List Value) (hown : w.ownsRow base e size v n xs) (c : Nat) : (Builtin.append_ #[t, t] ty #[v, .slice none 0 c]).run P w = .ok v w := by
  rcases hown.2 with ⟨rfl, rfl⟩ | ⟨g, cap, cur, rfl, _, _, hnc, _⟩
  · simp [Builtin.append_, run_underlying ht, sizeOf, typeInfo, hi, Builtin.lenOf, Builtin.firstCells]
  · simp [Builtin.append_, run_underlying ht, sizeOf, typeInfo, hi, Builtin.lenOf, Builtin.firstCells, hnc, storeCells]

theorem run_app (base : Nat) (t ty e : TypeId) (i : TypeInfo) (z : Value) (size bytes : Nat) (ht : P.underlying t = some (.slice e)) (hi : P.info? e = some i) (hz : i.zero = some z)
    (hsize : i.size = size) (hby : i.bytes = bytes) (hzs : z.cells.size = size) (hsz : 0 < size)
    (v : Value) (n : Nat) (xs : List Value) (hown : w.ownsRow base e size v n xs)
    (B : Nat) (A : Option Addr) (m c : Nat) (news : List Value) (hr : Sl w B size A m news) (h1 : ∀ u ∈ news, u.oneCell' = true)
    (h63 : n + m ≤ maxLen) (hbytes : (n + m) * bytes ≤ 140737488355328) (hbase : base ≤ w.heap.size) :
    ∃ v' w', (Builtin.append_ #[t, t] ty #[v, .slice A m c]).run P w = .ok v' w' ∧ w'.ownsRow base e size v' (n + m) (xs ++ news) ∧ w.grownBy w' v.ownBlock ∧
      (v'.ownBlock = v.ownBlock ∨ v'.ownBlock = some w.heap.size) := by
  have hz0 : m = 0 → news = [] := fun h => List.eq_nil_of_length_eq_zero (by rw [hr.len, h]; simp)
  cases A with
  | none =>
    have hm : m = 0 := by
      rcases Nat.eq_zero_or_pos m with h0 | h0
      · exact h0
      · obtain ⟨_, _, h, _⟩ := hr.at_ h0
        cases h
    subst hm
    rw [hz0 rfl]
    exact ⟨v, w, run_app_nil w base t ty e i size ht hi v n xs hown c, by simpa using hown, World.grownBy.refl w _, .inl rfl⟩
  | some ad =>
    have hcells : ∀ j u, news[j]? = some u → w.cell? (ad.add j) = some u := by
      intro j u hu
      rcases Nat.eq_zero_or_pos m with h0 | h0
      · rw [hz0 h0] at hu
        simp at hu
      · obtain ⟨b, o, h, _, hc⟩ := hr.at_ h0
        injection h with h
        subst h
        rw [add_flat]
        exact hc j u hu
    obtain ⟨v', w', hrun, h2, h3, _, h5⟩ := run_append_own_at (P := P) w base t ty e i z size bytes ht hi hz hsize hby hzs hsz v n xs hown ad m c news hr.len hcells h1 h63 hbytes hbase
    exact ⟨v', w', hrun, h2, h3, h5⟩

/-- append(s, x...) in a walk: s is the call's own, x reads as a list -/
theorem wpList_app {ops : Array Oper} {rest : List Oper} {o : Oper} {a : Act} {Q : Exit → Act → World → Prop} (hgd : o.guard = none) (s x : Operand) (t : TypeId)
    (ho : o.op = .call { callee := .builtin .append, args := #[s, x], argTypes := #[t, t] })
    (base : Nat) (e : TypeId) (i : TypeInfo) (z : Value) (size bytes : Nat) (ht : P.underlying t = some (.slice e)) (hi : P.info? e = some i) (hz : i.zero = some z)
    (hsize : i.size = size) (hby : i.bytes = bytes) (hzs : z.cells.size = size) (hsz : 0 < size)
    (v : Value) (n : Nat) (xs : List Value) (hs : a.eval s = v) (hown : w.ownsRow base e size v n xs)
    (B : Nat) (A : Option Addr) (m c : Nat) (news : List Value) (hx : a.eval x = .slice A m c) (hr : Sl w B size A m news) (h1 : ∀ u ∈ news, u.oneCell' = true)
    (h63 : n + m ≤ maxLen) (hbytes : (n + m) * bytes ≤ 140737488355328) (hbase : base ≤ w.heap.size)
    (N : Nat) (hN : N = n + m) (ys : List Value) (hys : ys = xs ++ news)
    (h : ∀ A' c' w', N ≤ c' → w'.ownsRow base e size (.slice A' N c') N ys → w.grownBy w' v.ownBlock → (Value.ownBlock (.slice A' N c') = v.ownBlock ∨ Value.ownBlock (.slice A' N c') = some w.heap.size) → wpList P ops Q rest (a.put o.dst (.slice A' N c')) w') : wpList P ops Q (o :: rest) a w :=
  wpList_plain hgd fun K hK => by
    obtain ⟨v', w', hrun, h2, h3, h4⟩ := run_app (P := P) w base t o.type e i z size bytes ht hi hz hsize hby hzs hsz v n xs hown B A m c news hr h1 h63 hbytes hbase
    obtain ⟨A', c', rfl, hc⟩ := own_shape h2
    subst hN
    subst hys
    unfold Oper.wp execOp
    simp only [ho, resolve, invoke, builtin, Sem.run_bind, Sem.run_pure, Result.andThen_ok, List.map_toArray, List.map_cons, List.map_nil, hs, hx, hrun]
    exact hK _ _ (h A' c' w' hc h2 h3 h4)
end

/-- a list of bytes as cells -/
def bs (l : List UInt8) : List Value := l.map fun x => .int .u8 x.toNat
theorem bs_length (l : List UInt8) : (bs l).length = l.length := by simp [bs]
theorem bs_append (l r : List UInt8) : bs (l ++ r) = bs l ++ bs r := by simp [bs]
theorem bs_one (l : List UInt8) : ∀ u ∈ bs l, u.oneCell' = true := by
  intro u hu
  obtain ⟨x, _, rfl⟩ := List.mem_map.1 hu
  rfl
theorem bs_get (l : List UInt8) (k : Nat) : (bs l)[k]? = (l[k]?).map fun x => Value.int .u8 x.toNat := by simp [bs]
theorem bs_take (l : List UInt8) (k : Nat) : (bs l).take k = bs (l.take k) := by simp [bs]
theorem bs_drop (l : List UInt8) (k : Nat) : (bs l).drop k = bs (l.drop k) := by simp [bs]
/-- byte k of a slice of bytes -/
theorem Sl.byte {w : World} {B n : Nat} {A : Option Addr} {l : List UInt8} (h : Sl w B 1 A n (bs l)) {k : Nat} (hk : k < n) :
    ∃ b o x, A = some ⟨b, o, none⟩ ∧ b < B ∧ l[k]? = some x ∧ w.cell? ⟨b, o + k, none⟩ = some (.int .u8 (UInt8.toNat x)) := by
  obtain ⟨b, o, u, e, hb, hu, hc⟩ := h.get hk
  rw [bs_get] at hu
  obtain ⟨x, hx, rfl⟩ := Option.map_eq_some_iff.1 hu
  exact ⟨b, o, x, e, hb, hx, hc⟩
end Go.Proofs.YtfplkmldleigpaaDoor
