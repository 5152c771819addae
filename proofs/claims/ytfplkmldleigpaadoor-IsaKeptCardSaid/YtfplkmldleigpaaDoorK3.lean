/- Laws for the book's walk: one cell appended behind a row, in a walk and in a region that draws. No program in sight. Condition: none. -/
import Derived.Test.YtfplkmldleigpaaDoorK2
import Derived.Test.YtfplkmldleigpaaDoorR2
namespace Go.Proofs.YtfplkmldleigpaaDoor
open Go.RowKit
set_option linter.unusedVariables false

section
variable {P : Program} (w : World)
/-- append(s, x) of one cell, in a walk -/
theorem wpList_row {ops : Array Oper} {rest : List Oper} {o : Oper} {a : Act} {Q : Exit → Act → World → Prop} (hgd : o.guard = none) (s x : Operand) (t : TypeId)
    (ho : o.op = .call { callee := .builtin .append, args := #[s, x], argTypes := #[t, t] })
    (base : Nat) (e : TypeId) (i : TypeInfo) (z : Value) (bytes : Nat) (ht : P.underlying t = some (.slice e)) (hi : P.info? e = some i) (hz : i.zero = some z)
    (hsize : i.size = 1) (hby : i.bytes = bytes) (hzs : z.cells.size = 1) (v : Value) (n : Nat) (xs : List Value) (hs : a.eval s = v) (hrow : Row w base e v n xs)
    (b off c : Nat) (u : Value) (hx : a.eval x = .slice (some ⟨b, off, none⟩) 1 c) (hu : w.cell? ⟨b, off, none⟩ = some u) (h1 : u.oneCell' = true) (h63 : n + 1 ≤ maxLen) (hbytes : (n + 1) * bytes ≤ 140737488355328) (hbase : base ≤ w.heap.size)
    (h : ∀ A' c' w', Row w' base e (.slice A' (n + 1) c') (n + 1) (xs ++ [u]) → w.grownBy w' v.ownBlock → (∀ k, Value.ownBlock (.slice A' (n + 1) c') = some k → v.ownBlock = some k ∨ w.heap.size ≤ k) → wpList P ops Q rest (a.put o.dst (.slice A' (n + 1) c')) w') : wpList P ops Q (o :: rest) a w :=
  wpList_plain hgd fun K hK => by
    obtain ⟨v', w', hrun, h2, h3, h4⟩ := run_append_row (P := P) w base t o.type e i z bytes ht hi hz hsize hby hzs v n xs hrow ⟨b, off, none⟩ c u (by rw [add_flat]; exact hu) h1 h63 hbytes hbase
    obtain ⟨A', c', rfl, hc⟩ := h2.shape
    unfold Oper.wp execOp
    simp only [ho, resolve, invoke, builtin, Sem.run_bind, Sem.run_pure, Result.andThen_ok, List.map_toArray, List.map_cons, List.map_nil, hs, hx, hrun]
    exact hK _ _ (h A' c' w' h2 h3 h4)
end
section
variable {P : Program} {ops : Array Oper} {R : Act → World → Prop} {S : World → Prop} {listed : Array Bool} {a : Act} {w : World}
/-- the same in a region that draws -/
theorem held_row (k : Nat) {d : Option Tmp} (hk : oneOk ops listed k = true) (hw : Region.wanted (opOf ops k) (yielded ops a.tmps) = true) (hd : (opOf ops k).dst = d) (s x : Operand) (t : TypeId)
    (ho : (opOf ops k).op = .call { callee := .builtin .append, args := #[s, x], argTypes := #[t, t] })
    (base : Nat) (e : TypeId) (i : TypeInfo) (z : Value) (bytes : Nat) (ht : P.underlying t = some (.slice e)) (hi : P.info? e = some i) (hz : i.zero = some z)
    (hsize : i.size = 1) (hby : i.bytes = bytes) (hzs : z.cells.size = 1) (v : Value) (n : Nat) (xs : List Value) (hs : a.eval s = v) (hrow : Row w base e v n xs)
    (b off c : Nat) (u : Value) (hx : a.eval x = .slice (some ⟨b, off, none⟩) 1 c) (hu : w.cell? ⟨b, off, none⟩ = some u) (h1 : u.oneCell' = true) (h63 : n + 1 ≤ maxLen) (hbytes : (n + 1) * bytes ≤ 140737488355328) (hbase : base ≤ w.heap.size)
    (h : ∀ A' c' w', S w → Row w' base e (.slice A' (n + 1) c') (n + 1) (xs ++ [u]) → w.grownBy w' v.ownBlock → (∀ k, Value.ownBlock (.slice A' (n + 1) c') = some k → v.ownBlock = some k ∨ w.heap.size ≤ k) →
      S w' ∧ Held P ops R S (listed.setIfInBounds k true) (a.put d (.slice A' (n + 1) c')) w') : HStep P ops R S listed k a w := fun hS => by
  simp only [oneOk, Bool.and_eq_true, Nat.blt_eq] at hk
  unfold wpOp
  rw [opOf_some hk.1]
  subst hd
  simp only [hw, if_true]
  refine Or.inl ?_
  obtain ⟨v', w', hrun, h2, h3, h4⟩ := run_append_row (P := P) w base t (opOf ops k).type e i z bytes ht hi hz hsize hby hzs v n xs hrow ⟨b, off, none⟩ c u (by rw [add_flat]; exact hu) h1 h63 hbytes hbase
  obtain ⟨A', c', rfl, hc⟩ := h2.shape
  unfold Oper.wp execOp
  simp only [ho, resolve, invoke, builtin, Sem.run_bind, Sem.run_pure, Result.andThen_ok, List.map_toArray, List.map_cons, List.map_nil, hs, hx, hrun]
  exact h A' c' w' hS h2 h3 h4
/-- a load, in its own turn -/
theorem held_load (k : Nat) {d : Option Tmp} {ty : TypeId} {x : Operand} {g o : Nat} {v : Value} (hk : oneOk ops listed k = true) (hw : Region.wanted (opOf ops k) (yielded ops a.tmps) = true) (hd : (opOf ops k).dst = d)
    (hx : S w → (execOp a.eval (opOf ops k)).run P w = .ok (.value v) w) (h : S w → Held P ops R S (listed.setIfInBounds k true) (a.put d v) w) : HStep P ops R S listed k a w :=
  held_run k hk hw hd hx fun hS => ⟨hS, h hS⟩
end
/-- the copy of a list -/
theorem kept_fresh {w : World} {base : Nat} {e : TypeId} {sz n c : Nat} {A : Option Addr} {cs : List Value} (h : w.ownsRow base e sz (.slice A n c) n cs) : ∀ k, blkOf A c = some k → base ≤ k := fun k hk => ((Kept.of_own h).lt k hk).1
theorem used_old {w : World} {tB tS e : TypeId} {sz gB : Nat} {v1 v2 : Value} {n1 n2 : Nat} {xs1 xs2 : List Value} {h : Int} {es : List Ent} (b : Bk w tB tS e sz gB v1 v2 n1 n2 xs1 xs2 h es) {k : Nat} (hk : w.heap.size ≤ k) : ¬ Bk.Used gB v1 v2 es k :=
  fun hu => by have := (b.used_lt hu).2; omega
end Go.Proofs.YtfplkmldleigpaaDoor
