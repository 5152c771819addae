/- Small functions of cpu: an operation's name, a trap, 1 or 0; the words' own: an operation by its name, a copy of a list. Condition: the table of operations is laid. -/
import Derived.Test.YthcjnkakfpmpbaaDoorB3
import Derived.Test.YthcjnkakfpmpbaaDoorB7
import Derived.Test.YthcjnkakfpmpbaaDoorK5
import Derived.Laws.ComplexArith
import Derived.WalkLawsBesides
namespace Go.Proofs.YthcjnkakfpmpbaaDoor
open Go.RowKit
set_option linter.unusedVariables false
set_option linter.unusedSimpArgs false

theorem cpu_size : (Tryd.prog.info? 119).map (fun i => (i.size, i.zero.map (·.cells.size))) = some (271, some 271) := by kernel_rfl
theorem cname_any (op : Int) (w : World) (hT : TabIs 0 w) : Calls Tryd.prog 82 #[.int .i64 op] w fun e w' => e = .returned (.string ⟨(opName op).toArray⟩) ∧ Below w.heap.size w w' := by
  go_enter Tryd.func82, Tryd.ntmps82
  go_wp2_with (first
    | (go_at_call 54; refine (at_any op w hT).mono ?_; rintro e w1 ⟨rfl, hb1⟩)
    | fail)
  go_ret
  exact ⟨rfl, hb1.alloc hb1.size _⟩
/-- a block of three cells, and what is stored into it -/
theorem there_of {w1 : World} {g : Nat} {t : TypeId} {cs : List Value} {n : Nat} (h : Blk w1 g t cs) (hn : cs.length = n) : w1.there g 0 n :=
  fun t ht => ⟨by rw [Nat.zero_add, h.cell, List.getElem?_eq_getElem (by omega)]; rfl, h.free _⟩
theorem wpList_st3 {P : Program} {w : World} {X : Nat} {t : TypeId} {z0 z1 z2 : Value} (hX : Blk w X t [z0, z1, z2]) {ops : Array Oper} {rest : List Oper} {a : Act} {o : Oper} {Q : Exit → Act → World → Prop} (hgd : o.guard = none) (ty : TypeId) (p y : Operand) (c0 c1 c2 : Value)
    (ho : o.op = .store ty p y) (hp : a.eval p = .pointer (some ⟨X, 0, none⟩)) (hy : a.eval y = .agg #[c0, c1, c2]) (h1 : (#[c0, c1, c2] : Array Value).all (·.oneCell') = true) (hi : (P.info? ty).map (·.size) = some 3)
    (hn : ((w.setCells X 0 [c0, c1, c2]).cell? ⟨X, 0, none⟩ = some c0 ∧ (w.setCells X 0 [c0, c1, c2]).cell? ⟨X, 1, none⟩ = some c1 ∧ (w.setCells X 0 [c0, c1, c2]).cell? ⟨X, 2, none⟩ = some c2) → wpList P ops Q rest (a.put o.dst undef) (w.setCells X 0 [c0, c1, c2])) : wpList P ops Q (o :: rest) a w := by
  have hB := ((hX.set_ 0 c0).set_ 1 c1).set_ 2 c2
  exact wpList_store_mid hgd ty p y ho X 0 #[c0, c1, c2] hp hy (there_of hX rfl) hi h1 (hn ⟨hB.cell 0, hB.cell 1, hB.cell 2⟩)
theorem wpList_st5 {P : Program} {w : World} {X : Nat} {t : TypeId} {z0 z1 z2 z3 z4 : Value} (hX : Blk w X t [z0, z1, z2, z3, z4]) {ops : Array Oper} {rest : List Oper} {a : Act} {o : Oper} {Q : Exit → Act → World → Prop} (hgd : o.guard = none) (ty : TypeId) (p y : Operand) (c0 c1 c2 c3 c4 : Value)
    (ho : o.op = .store ty p y) (hp : a.eval p = .pointer (some ⟨X, 0, none⟩)) (hy : a.eval y = .agg #[c0, c1, c2, c3, c4]) (h1 : (#[c0, c1, c2, c3, c4] : Array Value).all (·.oneCell') = true) (hi : (P.info? ty).map (·.size) = some 5)
    (hn : ∀ w', w' = w.setCells X 0 [c0, c1, c2, c3, c4] → (w'.cell? ⟨X, 0, none⟩ = some c0 ∧ w'.cell? ⟨X, 1, none⟩ = some c1 ∧ w'.cell? ⟨X, 2, none⟩ = some c2 ∧ w'.cell? ⟨X, 3, none⟩ = some c3 ∧ w'.cell? ⟨X, 4, none⟩ = some c4) → wpList P ops Q rest (a.put o.dst undef) w') : wpList P ops Q (o :: rest) a w := by
  have hB := ((((hX.set_ 0 c0).set_ 1 c1).set_ 2 c2).set_ 3 c3).set_ 4 c4
  exact wpList_store_mid hgd ty p y ho X 0 #[c0, c1, c2, c3, c4] hp hy (there_of hX rfl) hi h1 (hn _ rfl ⟨hB.cell 0, hB.cell 1, hB.cell 2, hB.cell 3, hB.cell 4⟩)
theorem below_cells {W : World} {g B : Nat} (hB : B ≤ g) : ∀ (vs : List Value) (o : Nat) (w1 : World), Below B W w1 → Below B W (w1.setCells g o vs)
  | [], _, _, h => h
  | v :: r, o, w1, h => below_cells hB r (o + 1) _ (h.setCell (p := ⟨g, o, none⟩) hB v)
theorem ctrap_any (n : Int) (w : World) : Calls Tryd.prog 57 #[.int .i64 n] w fun e w' => e = .returned (.agg #[.int .i64 6, .int .i64 n, .int .u32 0]) ∧ Below w.heap.size w w' := by
  go_enter Tryd.func57, Tryd.ntmps57
  go_wp2_with fail
  refine bodyPost_ret (v := .agg #[.int .i64 6, .int .i64 n, .int .u32 0]) (by simp [results, Tryd.results57, go_sem]) rfl ⟨rfl, ?_⟩
  exact (Below.refl w.heap.size w).alloc (Nat.le_refl _) _
def b01 (b : Bool) : Int := if b then 1 else 0
theorem truth_any (b : Bool) (w : World) : Calls Tryd.prog 83 #[.bool b] w fun e w' => e = .returned (.int .i32 (b01 b)) ∧ w = w' := by
  cases b
  · go_enter Tryd.func83, Tryd.ntmps83
    go_wp2_with fail
    go_ret
    exact ⟨rfl, rfl⟩
  · go_enter Tryd.func83, Tryd.ntmps83
    go_wp2_with fail
    go_ret
    exact ⟨rfl, rfl⟩
set_option maxHeartbeats 1000000 in
theorem op_any (s : ByteArray) (a b n : Int) (w : World) : Calls Tryd.prog 27 #[.string s, .int .i64 a, .int .i64 b, .int .i32 n] w fun e w' => e = .returned (.agg #[.int .i64 (findR s.toList), .int .i64 a, .int .i64 b, .int .i32 n, .int .i64 0]) ∧ Below w.heap.size w w' := by
  go_enter Tryd.func27, Tryd.ntmps27
  go_wp2_with (first
    | (go_at_call 63; refine (refFind_any s _).mono ?_; rintro e w1 ⟨rfl, hb1⟩; have hX1 := (Blk.new w 25 [.int .i64 0, .int .i64 0, .int .i64 0, .int .i32 0, .int .i64 0]).below hb1 (by simp))
    | ((with_reducible show wpList _ _ _ (Oper.mk none (Op.store _ (Operand.tmp 8) (Operand.tmp 14)) _ _ _ _ :: _) _ _); refine wpList_st5 hX1 rfl 25 (.tmp 8) (.tmp 14) (.int .i64 (findR s.toList)) (.int .i64 a) (.int .i64 b) (.int .i32 n) (.int .i64 0) rfl (by kernel_rfl) (by kernel_rfl) (by simp [Value.oneCell']) (by kernel_rfl) ?_; rintro w8 rfl ⟨z0, z1, z2, z3, z4⟩)
    | fail)
  refine bodyPost_ret (v := .agg #[.int .i64 (findR s.toList), .int .i64 a, .int .i64 b, .int .i32 n, .int .i64 0]) (by simp [results, Tryd.results27, go_sem, z0, z1, z2, z3, z4]) rfl ⟨rfl, ?_⟩
  exact below_cells (Nat.le_refl _) _ _ _ (((Below.refl w.heap.size w).alloc (Nat.le_refl _) _).trans (hb1.mono (by simp)))
theorem i32_info : (Tryd.prog.info? 21).map (fun i => (i.zero, i.size, i.bytes)) = some (some (.int .i32 0), 1, 4) := by kernel_rfl
theorem i32s_nil (a : Option Addr) (l c : Nat) (w : World) : (binOp BinOp.eql 67 (.slice a l c) (.slice none 0 0)).run Tryd.prog w = .ok (.bool a.isNone) w := by
  simp [binOp, run_equal_slice_nil w 67 21 a l c Tryd.underlying67]
set_option maxRecDepth 20000 in
theorem clone_any (A : Option Addr) (n c : Nat) (cs : List Value) (w : World) (hs : Sl w w.heap.size 1 A n cs) (h1 : ∀ u ∈ cs, u.oneCell' = true) (hn : n ≤ 1000000) (hnil : A = none → n = 0 ∧ c = 0) :
    Calls Tryd.prog 64 #[.slice A n c] w fun e w' => ∃ A' c', e = .returned (.slice A' n c') ∧ w'.ownsRow w.heap.size 21 1 (.slice A' n c') n cs ∧ Below w.heap.size w w' := by
  obtain ⟨i0, hi0, hz0, hz1, hz2⟩ := info_parts i32_info
  have hq := fun (a : Option Addr) (l c : Nat) => i32s_nil a l c
  rcases A with _ | a
  · obtain ⟨rfl, rfl⟩ := hnil rfl
    obtain rfl : cs = [] := List.eq_nil_of_length_eq_zero (by have := hs.len; omega)
    go_enter Tryd.func64, Tryd.ntmps64
    go_wp2_with fail
    go_ret
    exact ⟨none, 0, rfl, own_nil _ _ _ _, Below.refl _ _⟩
  · go_enter Tryd.func64, Tryd.ntmps64
    go_wp2_with (first
      | (at_builtin
         refine wpList_app _ rfl (.tmp 5) (.tmp 6) _ rfl w.heap.size 21 i0 _ 1 4 Tryd.underlying67 hi0 hz0 hz1 hz2 rfl (by omega) (.slice (some ⟨w.heap.size, 0, none⟩) 0 0) 0 [] rfl (own_empty _ _ _) w.heap.size (some a) n c cs rfl (hs.alloc (Nat.le_refl _) _) h1 (by unfold maxLen; omega) (by omega) (by simp) n (by omega) cs rfl ?_
         intro A1 c1 w1 hc1 hown1 hg1 _
         have hb1 : Below w.heap.size w w1 := ((Below.refl _ _).alloc (Nat.le_refl _) _).grown hg1 (by simp) (fun k hk => by simp [Value.ownBlock] at hk; omega))
      | fail)
    go_ret
    exact ⟨A1, c1, rfl, hown1, hb1⟩
end Go.Proofs.YthcjnkakfpmpbaaDoor
