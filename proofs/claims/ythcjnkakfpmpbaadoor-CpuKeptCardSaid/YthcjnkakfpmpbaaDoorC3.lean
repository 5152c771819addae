/- The walks of cpu's operations with two registers that only reckon. Conditions: the table of operations is laid; the registers are there. -/
import Derived.Test.YthcjnkakfpmpbaaDoorC2
import Derived.Deep.QuietTactic
import Derived.BigQuiet
namespace Go.Proofs.YthcjnkakfpmpbaaDoor
open Go.RowKit
set_option linter.unusedVariables false
set_option linter.unusedSimpArgs false


set_option maxRecDepth 20000 in
set_option maxHeartbeats 2000000 in
theorem two_mov (op n f : Int) (a b : Nat) (M : Value) (from_ : Int) (x y : Int) (w : World) (g : Nat) (cells : List Value) (hT : TabIs 0 w) (htg : 0 ≠ g) (hB : Blk w g 119 cells) (ha : a < 8) (hb : b < 8)
    (hx : cells[a]? = some (.int .i32 x)) (hy : cells[b]? = some (.int .i32 y)) (hx0 : -2147483648 ≤ x) (hx1 : x ≤ 2147483647) (hy0 : -2147483648 ≤ y) (hy1 : y ≤ 2147483647)  (hnm : opName op = [109, 111, 118]) :
    Calls Tryd.prog 60 #[.pointer (some ⟨g, 0, none⟩), .agg #[.int .i64 op, .int .i64 a, .int .i64 b, .int .i32 n, .int .i64 f], M, .int .i64 from_] w fun e w' => e = .returned (.agg #[.int .i64 0, .int .i64 0, .int .u32 0]) ∧ CW w g (cells.set a (.int .i32 (y))) w' := by
  have hg := hB.lt
  have Hn := Lib.hid (fun w hT => hnm ▸ cname_any op w hT)
  have HB := Lib.hid hB
  have ca := (hB.cell a).trans hx
  have cb := (hB.cell b).trans hy
  have qa : ((w.alloc (.cells #[.int .i64 op, .int .i64 a, .int .i64 b, .int .i32 n, .int .i64 f] 25)).alloc (.cells #[.int .i64 0, .int .i64 0, .int .u32 0] 56)).cell? ⟨g, a, none⟩ = some (.int .i32 x) := by
    rw [World.cell?_alloc_lt _ _ ⟨g, a, none⟩ (by simp; omega), World.cell?_alloc_lt _ _ ⟨g, a, none⟩ hg]; exact ca
  have qb : ((w.alloc (.cells #[.int .i64 op, .int .i64 a, .int .i64 b, .int .i32 n, .int .i64 f] 25)).alloc (.cells #[.int .i64 0, .int .i64 0, .int .u32 0] 56)).cell? ⟨g, b, none⟩ = some (.int .i32 y) := by
    rw [World.cell?_alloc_lt _ _ ⟨g, b, none⟩ (by simp; omega), World.cell?_alloc_lt _ _ ⟨g, b, none⟩ hg]; exact cb
  have Hx := Lib.hid hx
  clear hB hx hy
  go_enter Tryd.func60, Tryd.ntmps60
  go_wp2_with fail
  go_quiet (fail)
  have hX0 : Blk (((w.alloc (.cells #[.int .i64 op, .int .i64 a, .int .i64 b, .int .i32 n, .int .i64 f] 25)).alloc (.cells #[.int .i64 0, .int .i64 0, .int .u32 0] 56)).drewN nq) (w.heap.size + 1) 56 [.int .i64 0, .int .i64 0, .int .u32 0] := by
    have := Blk.new (w.alloc (.cells #[.int .i64 op, .int .i64 a, .int .i64 b, .int .i32 n, .int .i64 f] 25)) 56 [.int .i64 0, .int .i64 0, .int .u32 0]
    rw [World.size_alloc] at this
    exact this
  clear qa qb ca cb
  go_wp2_with (first
    | (go_at_call 82; refine (Hn.out _ (((hT.alloc _).alloc _).drewN nq)).mono ?_; rintro e w2 ⟨rfl, hb2⟩; have hC2 := ((((CW.start HB.out).alloc _).alloc _).drewN nq).below hb2; have hX2 := hX0.below hb2 hX0.lt; have q2 := (hC2.blk.cell a).trans Hx.out; have f2 := hC2.blk.free a; have HC2 := Lib.hid hC2; clear hC2)
    | (go_at_call 83; refine (truth_any _ _).mono ?_; rintro e w4 ⟨rfl, rfl⟩)
    | ((with_reducible show wpList _ _ _ (Oper.mk none (Op.store _ (Operand.tmp 8) (Operand.tmp 173)) _ _ _ _ :: _) _ _); refine wpList_st3 (hX2.other (by show w.heap.size + 1 ≠ g; omega)) rfl 56 (.tmp 8) (.tmp 173) (.int .i64 0) (.int .i64 0) (.int .u32 0) rfl (by kernel_rfl) (by kernel_rfl) (by simp [Value.oneCell']) (by kernel_rfl) ?_; rintro ⟨z0, z1, z2⟩)
    | fail)
  refine bodyPost_ret (v := .agg #[.int .i64 0, .int .i64 0, .int .u32 0]) (by simp [results, Tryd.results60, go_sem, z0, z1, z2]) rfl ⟨rfl, ?_⟩
  exact CW.farCells (by omega) _ _ _ (HC2.out.setReg a _)

set_option maxRecDepth 20000 in
set_option maxHeartbeats 2000000 in
theorem two_add (op n f : Int) (a b : Nat) (M : Value) (from_ : Int) (x y : Int) (w : World) (g : Nat) (cells : List Value) (hT : TabIs 0 w) (htg : 0 ≠ g) (hB : Blk w g 119 cells) (ha : a < 8) (hb : b < 8)
    (hx : cells[a]? = some (.int .i32 x)) (hy : cells[b]? = some (.int .i32 y)) (hx0 : -2147483648 ≤ x) (hx1 : x ≤ 2147483647) (hy0 : -2147483648 ≤ y) (hy1 : y ≤ 2147483647)  (hnm : opName op = [97, 100, 100]) :
    Calls Tryd.prog 60 #[.pointer (some ⟨g, 0, none⟩), .agg #[.int .i64 op, .int .i64 a, .int .i64 b, .int .i32 n, .int .i64 f], M, .int .i64 from_] w fun e w' => e = .returned (.agg #[.int .i64 0, .int .i64 0, .int .u32 0]) ∧ CW w g (cells.set a (.int .i32 (wrap32 (x + y)))) w' := by
  have hg := hB.lt
  have Hn := Lib.hid (fun w hT => hnm ▸ cname_any op w hT)
  have HB := Lib.hid hB
  have ca := (hB.cell a).trans hx
  have cb := (hB.cell b).trans hy
  have qa : ((w.alloc (.cells #[.int .i64 op, .int .i64 a, .int .i64 b, .int .i32 n, .int .i64 f] 25)).alloc (.cells #[.int .i64 0, .int .i64 0, .int .u32 0] 56)).cell? ⟨g, a, none⟩ = some (.int .i32 x) := by
    rw [World.cell?_alloc_lt _ _ ⟨g, a, none⟩ (by simp; omega), World.cell?_alloc_lt _ _ ⟨g, a, none⟩ hg]; exact ca
  have qb : ((w.alloc (.cells #[.int .i64 op, .int .i64 a, .int .i64 b, .int .i32 n, .int .i64 f] 25)).alloc (.cells #[.int .i64 0, .int .i64 0, .int .u32 0] 56)).cell? ⟨g, b, none⟩ = some (.int .i32 y) := by
    rw [World.cell?_alloc_lt _ _ ⟨g, b, none⟩ (by simp; omega), World.cell?_alloc_lt _ _ ⟨g, b, none⟩ hg]; exact cb
  have Hx := Lib.hid hx
  clear hB hx hy
  go_enter Tryd.func60, Tryd.ntmps60
  go_wp2_with fail
  go_quiet (fail)
  have hX0 : Blk (((w.alloc (.cells #[.int .i64 op, .int .i64 a, .int .i64 b, .int .i32 n, .int .i64 f] 25)).alloc (.cells #[.int .i64 0, .int .i64 0, .int .u32 0] 56)).drewN nq) (w.heap.size + 1) 56 [.int .i64 0, .int .i64 0, .int .u32 0] := by
    have := Blk.new (w.alloc (.cells #[.int .i64 op, .int .i64 a, .int .i64 b, .int .i32 n, .int .i64 f] 25)) 56 [.int .i64 0, .int .i64 0, .int .u32 0]
    rw [World.size_alloc] at this
    exact this
  clear qa qb ca cb
  go_wp2_with (first
    | (go_at_call 82; refine (Hn.out _ (((hT.alloc _).alloc _).drewN nq)).mono ?_; rintro e w2 ⟨rfl, hb2⟩; have hC2 := ((((CW.start HB.out).alloc _).alloc _).drewN nq).below hb2; have hX2 := hX0.below hb2 hX0.lt; have q2 := (hC2.blk.cell a).trans Hx.out; have f2 := hC2.blk.free a; have HC2 := Lib.hid hC2; clear hC2)
    | (go_at_call 83; refine (truth_any _ _).mono ?_; rintro e w4 ⟨rfl, rfl⟩)
    | ((with_reducible show wpList _ _ _ (Oper.mk none (Op.store _ (Operand.tmp 8) (Operand.tmp 173)) _ _ _ _ :: _) _ _); refine wpList_st3 (hX2.other (by show w.heap.size + 1 ≠ g; omega)) rfl 56 (.tmp 8) (.tmp 173) (.int .i64 0) (.int .i64 0) (.int .u32 0) rfl (by kernel_rfl) (by kernel_rfl) (by simp [Value.oneCell']) (by kernel_rfl) ?_; rintro ⟨z0, z1, z2⟩)
    | fail)
  refine bodyPost_ret (v := .agg #[.int .i64 0, .int .i64 0, .int .u32 0]) (by simp [results, Tryd.results60, go_sem, z0, z1, z2]) rfl ⟨rfl, ?_⟩
  exact CW.farCells (by omega) _ _ _ (HC2.out.setReg a _)

set_option maxRecDepth 20000 in
set_option maxHeartbeats 2000000 in
theorem two_sub (op n f : Int) (a b : Nat) (M : Value) (from_ : Int) (x y : Int) (w : World) (g : Nat) (cells : List Value) (hT : TabIs 0 w) (htg : 0 ≠ g) (hB : Blk w g 119 cells) (ha : a < 8) (hb : b < 8)
    (hx : cells[a]? = some (.int .i32 x)) (hy : cells[b]? = some (.int .i32 y)) (hx0 : -2147483648 ≤ x) (hx1 : x ≤ 2147483647) (hy0 : -2147483648 ≤ y) (hy1 : y ≤ 2147483647)  (hnm : opName op = [115, 117, 98]) :
    Calls Tryd.prog 60 #[.pointer (some ⟨g, 0, none⟩), .agg #[.int .i64 op, .int .i64 a, .int .i64 b, .int .i32 n, .int .i64 f], M, .int .i64 from_] w fun e w' => e = .returned (.agg #[.int .i64 0, .int .i64 0, .int .u32 0]) ∧ CW w g (cells.set a (.int .i32 (wrap32 (x - y)))) w' := by
  have hg := hB.lt
  have Hn := Lib.hid (fun w hT => hnm ▸ cname_any op w hT)
  have HB := Lib.hid hB
  have ca := (hB.cell a).trans hx
  have cb := (hB.cell b).trans hy
  have qa : ((w.alloc (.cells #[.int .i64 op, .int .i64 a, .int .i64 b, .int .i32 n, .int .i64 f] 25)).alloc (.cells #[.int .i64 0, .int .i64 0, .int .u32 0] 56)).cell? ⟨g, a, none⟩ = some (.int .i32 x) := by
    rw [World.cell?_alloc_lt _ _ ⟨g, a, none⟩ (by simp; omega), World.cell?_alloc_lt _ _ ⟨g, a, none⟩ hg]; exact ca
  have qb : ((w.alloc (.cells #[.int .i64 op, .int .i64 a, .int .i64 b, .int .i32 n, .int .i64 f] 25)).alloc (.cells #[.int .i64 0, .int .i64 0, .int .u32 0] 56)).cell? ⟨g, b, none⟩ = some (.int .i32 y) := by
    rw [World.cell?_alloc_lt _ _ ⟨g, b, none⟩ (by simp; omega), World.cell?_alloc_lt _ _ ⟨g, b, none⟩ hg]; exact cb
  have Hx := Lib.hid hx
  clear hB hx hy
  go_enter Tryd.func60, Tryd.ntmps60
  go_wp2_with fail
  go_quiet (fail)
  have hX0 : Blk (((w.alloc (.cells #[.int .i64 op, .int .i64 a, .int .i64 b, .int .i32 n, .int .i64 f] 25)).alloc (.cells #[.int .i64 0, .int .i64 0, .int .u32 0] 56)).drewN nq) (w.heap.size + 1) 56 [.int .i64 0, .int .i64 0, .int .u32 0] := by
    have := Blk.new (w.alloc (.cells #[.int .i64 op, .int .i64 a, .int .i64 b, .int .i32 n, .int .i64 f] 25)) 56 [.int .i64 0, .int .i64 0, .int .u32 0]
    rw [World.size_alloc] at this
    exact this
  clear qa qb ca cb
  go_wp2_with (first
    | (go_at_call 82; refine (Hn.out _ (((hT.alloc _).alloc _).drewN nq)).mono ?_; rintro e w2 ⟨rfl, hb2⟩; have hC2 := ((((CW.start HB.out).alloc _).alloc _).drewN nq).below hb2; have hX2 := hX0.below hb2 hX0.lt; have q2 := (hC2.blk.cell a).trans Hx.out; have f2 := hC2.blk.free a; have HC2 := Lib.hid hC2; clear hC2)
    | (go_at_call 83; refine (truth_any _ _).mono ?_; rintro e w4 ⟨rfl, rfl⟩)
    | ((with_reducible show wpList _ _ _ (Oper.mk none (Op.store _ (Operand.tmp 8) (Operand.tmp 173)) _ _ _ _ :: _) _ _); refine wpList_st3 (hX2.other (by show w.heap.size + 1 ≠ g; omega)) rfl 56 (.tmp 8) (.tmp 173) (.int .i64 0) (.int .i64 0) (.int .u32 0) rfl (by kernel_rfl) (by kernel_rfl) (by simp [Value.oneCell']) (by kernel_rfl) ?_; rintro ⟨z0, z1, z2⟩)
    | fail)
  refine bodyPost_ret (v := .agg #[.int .i64 0, .int .i64 0, .int .u32 0]) (by simp [results, Tryd.results60, go_sem, z0, z1, z2]) rfl ⟨rfl, ?_⟩
  exact CW.farCells (by omega) _ _ _ (HC2.out.setReg a _)

set_option maxRecDepth 20000 in
set_option maxHeartbeats 2000000 in
theorem two_mul (op n f : Int) (a b : Nat) (M : Value) (from_ : Int) (x y : Int) (w : World) (g : Nat) (cells : List Value) (hT : TabIs 0 w) (htg : 0 ≠ g) (hB : Blk w g 119 cells) (ha : a < 8) (hb : b < 8)
    (hx : cells[a]? = some (.int .i32 x)) (hy : cells[b]? = some (.int .i32 y)) (hx0 : -2147483648 ≤ x) (hx1 : x ≤ 2147483647) (hy0 : -2147483648 ≤ y) (hy1 : y ≤ 2147483647)  (hnm : opName op = [109, 117, 108]) :
    Calls Tryd.prog 60 #[.pointer (some ⟨g, 0, none⟩), .agg #[.int .i64 op, .int .i64 a, .int .i64 b, .int .i32 n, .int .i64 f], M, .int .i64 from_] w fun e w' => e = .returned (.agg #[.int .i64 0, .int .i64 0, .int .u32 0]) ∧ CW w g (cells.set a (.int .i32 (wrap32 (x * y)))) w' := by
  have hg := hB.lt
  have Hn := Lib.hid (fun w hT => hnm ▸ cname_any op w hT)
  have HB := Lib.hid hB
  have ca := (hB.cell a).trans hx
  have cb := (hB.cell b).trans hy
  have qa : ((w.alloc (.cells #[.int .i64 op, .int .i64 a, .int .i64 b, .int .i32 n, .int .i64 f] 25)).alloc (.cells #[.int .i64 0, .int .i64 0, .int .u32 0] 56)).cell? ⟨g, a, none⟩ = some (.int .i32 x) := by
    rw [World.cell?_alloc_lt _ _ ⟨g, a, none⟩ (by simp; omega), World.cell?_alloc_lt _ _ ⟨g, a, none⟩ hg]; exact ca
  have qb : ((w.alloc (.cells #[.int .i64 op, .int .i64 a, .int .i64 b, .int .i32 n, .int .i64 f] 25)).alloc (.cells #[.int .i64 0, .int .i64 0, .int .u32 0] 56)).cell? ⟨g, b, none⟩ = some (.int .i32 y) := by
    rw [World.cell?_alloc_lt _ _ ⟨g, b, none⟩ (by simp; omega), World.cell?_alloc_lt _ _ ⟨g, b, none⟩ hg]; exact cb
  have Hx := Lib.hid hx
  clear hB hx hy
  go_enter Tryd.func60, Tryd.ntmps60
  go_wp2_with fail
  go_quiet (fail)
  have hX0 : Blk (((w.alloc (.cells #[.int .i64 op, .int .i64 a, .int .i64 b, .int .i32 n, .int .i64 f] 25)).alloc (.cells #[.int .i64 0, .int .i64 0, .int .u32 0] 56)).drewN nq) (w.heap.size + 1) 56 [.int .i64 0, .int .i64 0, .int .u32 0] := by
    have := Blk.new (w.alloc (.cells #[.int .i64 op, .int .i64 a, .int .i64 b, .int .i32 n, .int .i64 f] 25)) 56 [.int .i64 0, .int .i64 0, .int .u32 0]
    rw [World.size_alloc] at this
    exact this
  clear qa qb ca cb
  go_wp2_with (first
    | (go_at_call 82; refine (Hn.out _ (((hT.alloc _).alloc _).drewN nq)).mono ?_; rintro e w2 ⟨rfl, hb2⟩; have hC2 := ((((CW.start HB.out).alloc _).alloc _).drewN nq).below hb2; have hX2 := hX0.below hb2 hX0.lt; have q2 := (hC2.blk.cell a).trans Hx.out; have f2 := hC2.blk.free a; have HC2 := Lib.hid hC2; clear hC2)
    | (go_at_call 83; refine (truth_any _ _).mono ?_; rintro e w4 ⟨rfl, rfl⟩)
    | ((with_reducible show wpList _ _ _ (Oper.mk none (Op.store _ (Operand.tmp 8) (Operand.tmp 173)) _ _ _ _ :: _) _ _); refine wpList_st3 (hX2.other (by show w.heap.size + 1 ≠ g; omega)) rfl 56 (.tmp 8) (.tmp 173) (.int .i64 0) (.int .i64 0) (.int .u32 0) rfl (by kernel_rfl) (by kernel_rfl) (by simp [Value.oneCell']) (by kernel_rfl) ?_; rintro ⟨z0, z1, z2⟩)
    | fail)
  refine bodyPost_ret (v := .agg #[.int .i64 0, .int .i64 0, .int .u32 0]) (by simp [results, Tryd.results60, go_sem, z0, z1, z2]) rfl ⟨rfl, ?_⟩
  exact CW.farCells (by omega) _ _ _ (HC2.out.setReg a _)

set_option maxRecDepth 20000 in
set_option maxHeartbeats 2000000 in
theorem two_div (op n f : Int) (a b : Nat) (M : Value) (from_ : Int) (x y : Int) (w : World) (g : Nat) (cells : List Value) (hT : TabIs 0 w) (htg : 0 ≠ g) (hB : Blk w g 119 cells) (ha : a < 8) (hb : b < 8)
    (hx : cells[a]? = some (.int .i32 x)) (hy : cells[b]? = some (.int .i32 y)) (hx0 : -2147483648 ≤ x) (hx1 : x ≤ 2147483647) (hy0 : -2147483648 ≤ y) (hy1 : y ≤ 2147483647) (hyz : (y == 0) = false) (hyy : ¬ y = 0) (hnm : opName op = [100, 105, 118]) :
    Calls Tryd.prog 60 #[.pointer (some ⟨g, 0, none⟩), .agg #[.int .i64 op, .int .i64 a, .int .i64 b, .int .i32 n, .int .i64 f], M, .int .i64 from_] w fun e w' => e = .returned (.agg #[.int .i64 0, .int .i64 0, .int .u32 0]) ∧ CW w g (cells.set a (.int .i32 (wrap32 (x.tdiv y)))) w' := by
  have hg := hB.lt
  have Hn := Lib.hid (fun w hT => hnm ▸ cname_any op w hT)
  have HB := Lib.hid hB
  have ca := (hB.cell a).trans hx
  have cb := (hB.cell b).trans hy
  have qa : ((w.alloc (.cells #[.int .i64 op, .int .i64 a, .int .i64 b, .int .i32 n, .int .i64 f] 25)).alloc (.cells #[.int .i64 0, .int .i64 0, .int .u32 0] 56)).cell? ⟨g, a, none⟩ = some (.int .i32 x) := by
    rw [World.cell?_alloc_lt _ _ ⟨g, a, none⟩ (by simp; omega), World.cell?_alloc_lt _ _ ⟨g, a, none⟩ hg]; exact ca
  have qb : ((w.alloc (.cells #[.int .i64 op, .int .i64 a, .int .i64 b, .int .i32 n, .int .i64 f] 25)).alloc (.cells #[.int .i64 0, .int .i64 0, .int .u32 0] 56)).cell? ⟨g, b, none⟩ = some (.int .i32 y) := by
    rw [World.cell?_alloc_lt _ _ ⟨g, b, none⟩ (by simp; omega), World.cell?_alloc_lt _ _ ⟨g, b, none⟩ hg]; exact cb
  have Hx := Lib.hid hx
  clear hB hx hy
  go_enter Tryd.func60, Tryd.ntmps60
  go_wp2_with fail
  go_quiet (fail)
  have hX0 : Blk (((w.alloc (.cells #[.int .i64 op, .int .i64 a, .int .i64 b, .int .i32 n, .int .i64 f] 25)).alloc (.cells #[.int .i64 0, .int .i64 0, .int .u32 0] 56)).drewN nq) (w.heap.size + 1) 56 [.int .i64 0, .int .i64 0, .int .u32 0] := by
    have := Blk.new (w.alloc (.cells #[.int .i64 op, .int .i64 a, .int .i64 b, .int .i32 n, .int .i64 f] 25)) 56 [.int .i64 0, .int .i64 0, .int .u32 0]
    rw [World.size_alloc] at this
    exact this
  clear qa qb ca cb
  go_wp2_with (first
    | (go_at_call 82; refine (Hn.out _ (((hT.alloc _).alloc _).drewN nq)).mono ?_; rintro e w2 ⟨rfl, hb2⟩; have hC2 := ((((CW.start HB.out).alloc _).alloc _).drewN nq).below hb2; have hX2 := hX0.below hb2 hX0.lt; have q2 := (hC2.blk.cell a).trans Hx.out; have f2 := hC2.blk.free a; have HC2 := Lib.hid hC2; clear hC2)
    | (go_at_call 83; refine (truth_any _ _).mono ?_; rintro e w4 ⟨rfl, rfl⟩)
    | ((with_reducible show wpList _ _ _ (Oper.mk none (Op.store _ (Operand.tmp 8) (Operand.tmp 173)) _ _ _ _ :: _) _ _); refine wpList_st3 (hX2.other (by show w.heap.size + 1 ≠ g; omega)) rfl 56 (.tmp 8) (.tmp 173) (.int .i64 0) (.int .i64 0) (.int .u32 0) rfl (by kernel_rfl) (by kernel_rfl) (by simp [Value.oneCell']) (by kernel_rfl) ?_; rintro ⟨z0, z1, z2⟩)
    | fail)
  refine bodyPost_ret (v := .agg #[.int .i64 0, .int .i64 0, .int .u32 0]) (by simp [results, Tryd.results60, go_sem, z0, z1, z2]) rfl ⟨rfl, ?_⟩
  exact CW.farCells (by omega) _ _ _ (HC2.out.setReg a _)

set_option maxRecDepth 20000 in
set_option maxHeartbeats 2000000 in
theorem two_and (op n f : Int) (a b : Nat) (M : Value) (from_ : Int) (x y : Int) (w : World) (g : Nat) (cells : List Value) (hT : TabIs 0 w) (htg : 0 ≠ g) (hB : Blk w g 119 cells) (ha : a < 8) (hb : b < 8)
    (hx : cells[a]? = some (.int .i32 x)) (hy : cells[b]? = some (.int .i32 y)) (hx0 : -2147483648 ≤ x) (hx1 : x ≤ 2147483647) (hy0 : -2147483648 ≤ y) (hy1 : y ≤ 2147483647)  (hnm : opName op = [97, 110, 100]) :
    Calls Tryd.prog 60 #[.pointer (some ⟨g, 0, none⟩), .agg #[.int .i64 op, .int .i64 a, .int .i64 b, .int .i32 n, .int .i64 f], M, .int .i64 from_] w fun e w' => e = .returned (.agg #[.int .i64 0, .int .i64 0, .int .u32 0]) ∧ CW w g (cells.set a (.int .i32 (bits BinOp.and IntKind.i32 x y))) w' := by
  have hg := hB.lt
  have Hn := Lib.hid (fun w hT => hnm ▸ cname_any op w hT)
  have HB := Lib.hid hB
  have ca := (hB.cell a).trans hx
  have cb := (hB.cell b).trans hy
  have qa : ((w.alloc (.cells #[.int .i64 op, .int .i64 a, .int .i64 b, .int .i32 n, .int .i64 f] 25)).alloc (.cells #[.int .i64 0, .int .i64 0, .int .u32 0] 56)).cell? ⟨g, a, none⟩ = some (.int .i32 x) := by
    rw [World.cell?_alloc_lt _ _ ⟨g, a, none⟩ (by simp; omega), World.cell?_alloc_lt _ _ ⟨g, a, none⟩ hg]; exact ca
  have qb : ((w.alloc (.cells #[.int .i64 op, .int .i64 a, .int .i64 b, .int .i32 n, .int .i64 f] 25)).alloc (.cells #[.int .i64 0, .int .i64 0, .int .u32 0] 56)).cell? ⟨g, b, none⟩ = some (.int .i32 y) := by
    rw [World.cell?_alloc_lt _ _ ⟨g, b, none⟩ (by simp; omega), World.cell?_alloc_lt _ _ ⟨g, b, none⟩ hg]; exact cb
  have Hx := Lib.hid hx
  clear hB hx hy
  go_enter Tryd.func60, Tryd.ntmps60
  go_wp2_with fail
  go_quiet (fail)
  have hX0 : Blk (((w.alloc (.cells #[.int .i64 op, .int .i64 a, .int .i64 b, .int .i32 n, .int .i64 f] 25)).alloc (.cells #[.int .i64 0, .int .i64 0, .int .u32 0] 56)).drewN nq) (w.heap.size + 1) 56 [.int .i64 0, .int .i64 0, .int .u32 0] := by
    have := Blk.new (w.alloc (.cells #[.int .i64 op, .int .i64 a, .int .i64 b, .int .i32 n, .int .i64 f] 25)) 56 [.int .i64 0, .int .i64 0, .int .u32 0]
    rw [World.size_alloc] at this
    exact this
  clear qa qb ca cb
  go_wp2_with (first
    | (go_at_call 82; refine (Hn.out _ (((hT.alloc _).alloc _).drewN nq)).mono ?_; rintro e w2 ⟨rfl, hb2⟩; have hC2 := ((((CW.start HB.out).alloc _).alloc _).drewN nq).below hb2; have hX2 := hX0.below hb2 hX0.lt; have q2 := (hC2.blk.cell a).trans Hx.out; have f2 := hC2.blk.free a; have HC2 := Lib.hid hC2; clear hC2)
    | (go_at_call 83; refine (truth_any _ _).mono ?_; rintro e w4 ⟨rfl, rfl⟩)
    | ((with_reducible show wpList _ _ _ (Oper.mk none (Op.store _ (Operand.tmp 8) (Operand.tmp 173)) _ _ _ _ :: _) _ _); refine wpList_st3 (hX2.other (by show w.heap.size + 1 ≠ g; omega)) rfl 56 (.tmp 8) (.tmp 173) (.int .i64 0) (.int .i64 0) (.int .u32 0) rfl (by kernel_rfl) (by kernel_rfl) (by simp [Value.oneCell']) (by kernel_rfl) ?_; rintro ⟨z0, z1, z2⟩)
    | fail)
  refine bodyPost_ret (v := .agg #[.int .i64 0, .int .i64 0, .int .u32 0]) (by simp [results, Tryd.results60, go_sem, z0, z1, z2]) rfl ⟨rfl, ?_⟩
  exact CW.farCells (by omega) _ _ _ (HC2.out.setReg a _)

set_option maxRecDepth 20000 in
set_option maxHeartbeats 2000000 in
theorem two_or (op n f : Int) (a b : Nat) (M : Value) (from_ : Int) (x y : Int) (w : World) (g : Nat) (cells : List Value) (hT : TabIs 0 w) (htg : 0 ≠ g) (hB : Blk w g 119 cells) (ha : a < 8) (hb : b < 8)
    (hx : cells[a]? = some (.int .i32 x)) (hy : cells[b]? = some (.int .i32 y)) (hx0 : -2147483648 ≤ x) (hx1 : x ≤ 2147483647) (hy0 : -2147483648 ≤ y) (hy1 : y ≤ 2147483647)  (hnm : opName op = [111, 114]) :
    Calls Tryd.prog 60 #[.pointer (some ⟨g, 0, none⟩), .agg #[.int .i64 op, .int .i64 a, .int .i64 b, .int .i32 n, .int .i64 f], M, .int .i64 from_] w fun e w' => e = .returned (.agg #[.int .i64 0, .int .i64 0, .int .u32 0]) ∧ CW w g (cells.set a (.int .i32 (bits BinOp.or IntKind.i32 x y))) w' := by
  have hg := hB.lt
  have Hn := Lib.hid (fun w hT => hnm ▸ cname_any op w hT)
  have HB := Lib.hid hB
  have ca := (hB.cell a).trans hx
  have cb := (hB.cell b).trans hy
  have qa : ((w.alloc (.cells #[.int .i64 op, .int .i64 a, .int .i64 b, .int .i32 n, .int .i64 f] 25)).alloc (.cells #[.int .i64 0, .int .i64 0, .int .u32 0] 56)).cell? ⟨g, a, none⟩ = some (.int .i32 x) := by
    rw [World.cell?_alloc_lt _ _ ⟨g, a, none⟩ (by simp; omega), World.cell?_alloc_lt _ _ ⟨g, a, none⟩ hg]; exact ca
  have qb : ((w.alloc (.cells #[.int .i64 op, .int .i64 a, .int .i64 b, .int .i32 n, .int .i64 f] 25)).alloc (.cells #[.int .i64 0, .int .i64 0, .int .u32 0] 56)).cell? ⟨g, b, none⟩ = some (.int .i32 y) := by
    rw [World.cell?_alloc_lt _ _ ⟨g, b, none⟩ (by simp; omega), World.cell?_alloc_lt _ _ ⟨g, b, none⟩ hg]; exact cb
  have Hx := Lib.hid hx
  clear hB hx hy
  go_enter Tryd.func60, Tryd.ntmps60
  go_wp2_with fail
  go_quiet (fail)
  have hX0 : Blk (((w.alloc (.cells #[.int .i64 op, .int .i64 a, .int .i64 b, .int .i32 n, .int .i64 f] 25)).alloc (.cells #[.int .i64 0, .int .i64 0, .int .u32 0] 56)).drewN nq) (w.heap.size + 1) 56 [.int .i64 0, .int .i64 0, .int .u32 0] := by
    have := Blk.new (w.alloc (.cells #[.int .i64 op, .int .i64 a, .int .i64 b, .int .i32 n, .int .i64 f] 25)) 56 [.int .i64 0, .int .i64 0, .int .u32 0]
    rw [World.size_alloc] at this
    exact this
  clear qa qb ca cb
  go_wp2_with (first
    | (go_at_call 82; refine (Hn.out _ (((hT.alloc _).alloc _).drewN nq)).mono ?_; rintro e w2 ⟨rfl, hb2⟩; have hC2 := ((((CW.start HB.out).alloc _).alloc _).drewN nq).below hb2; have hX2 := hX0.below hb2 hX0.lt; have q2 := (hC2.blk.cell a).trans Hx.out; have f2 := hC2.blk.free a; have HC2 := Lib.hid hC2; clear hC2)
    | (go_at_call 83; refine (truth_any _ _).mono ?_; rintro e w4 ⟨rfl, rfl⟩)
    | ((with_reducible show wpList _ _ _ (Oper.mk none (Op.store _ (Operand.tmp 8) (Operand.tmp 173)) _ _ _ _ :: _) _ _); refine wpList_st3 (hX2.other (by show w.heap.size + 1 ≠ g; omega)) rfl 56 (.tmp 8) (.tmp 173) (.int .i64 0) (.int .i64 0) (.int .u32 0) rfl (by kernel_rfl) (by kernel_rfl) (by simp [Value.oneCell']) (by kernel_rfl) ?_; rintro ⟨z0, z1, z2⟩)
    | fail)
  refine bodyPost_ret (v := .agg #[.int .i64 0, .int .i64 0, .int .u32 0]) (by simp [results, Tryd.results60, go_sem, z0, z1, z2]) rfl ⟨rfl, ?_⟩
  exact CW.farCells (by omega) _ _ _ (HC2.out.setReg a _)

set_option maxRecDepth 20000 in
set_option maxHeartbeats 2000000 in
theorem two_xor (op n f : Int) (a b : Nat) (M : Value) (from_ : Int) (x y : Int) (w : World) (g : Nat) (cells : List Value) (hT : TabIs 0 w) (htg : 0 ≠ g) (hB : Blk w g 119 cells) (ha : a < 8) (hb : b < 8)
    (hx : cells[a]? = some (.int .i32 x)) (hy : cells[b]? = some (.int .i32 y)) (hx0 : -2147483648 ≤ x) (hx1 : x ≤ 2147483647) (hy0 : -2147483648 ≤ y) (hy1 : y ≤ 2147483647)  (hnm : opName op = [120, 111, 114]) :
    Calls Tryd.prog 60 #[.pointer (some ⟨g, 0, none⟩), .agg #[.int .i64 op, .int .i64 a, .int .i64 b, .int .i32 n, .int .i64 f], M, .int .i64 from_] w fun e w' => e = .returned (.agg #[.int .i64 0, .int .i64 0, .int .u32 0]) ∧ CW w g (cells.set a (.int .i32 (bits BinOp.xor IntKind.i32 x y))) w' := by
  have hg := hB.lt
  have Hn := Lib.hid (fun w hT => hnm ▸ cname_any op w hT)
  have HB := Lib.hid hB
  have ca := (hB.cell a).trans hx
  have cb := (hB.cell b).trans hy
  have qa : ((w.alloc (.cells #[.int .i64 op, .int .i64 a, .int .i64 b, .int .i32 n, .int .i64 f] 25)).alloc (.cells #[.int .i64 0, .int .i64 0, .int .u32 0] 56)).cell? ⟨g, a, none⟩ = some (.int .i32 x) := by
    rw [World.cell?_alloc_lt _ _ ⟨g, a, none⟩ (by simp; omega), World.cell?_alloc_lt _ _ ⟨g, a, none⟩ hg]; exact ca
  have qb : ((w.alloc (.cells #[.int .i64 op, .int .i64 a, .int .i64 b, .int .i32 n, .int .i64 f] 25)).alloc (.cells #[.int .i64 0, .int .i64 0, .int .u32 0] 56)).cell? ⟨g, b, none⟩ = some (.int .i32 y) := by
    rw [World.cell?_alloc_lt _ _ ⟨g, b, none⟩ (by simp; omega), World.cell?_alloc_lt _ _ ⟨g, b, none⟩ hg]; exact cb
  have Hx := Lib.hid hx
  clear hB hx hy
  go_enter Tryd.func60, Tryd.ntmps60
  go_wp2_with fail
  go_quiet (fail)
  have hX0 : Blk (((w.alloc (.cells #[.int .i64 op, .int .i64 a, .int .i64 b, .int .i32 n, .int .i64 f] 25)).alloc (.cells #[.int .i64 0, .int .i64 0, .int .u32 0] 56)).drewN nq) (w.heap.size + 1) 56 [.int .i64 0, .int .i64 0, .int .u32 0] := by
    have := Blk.new (w.alloc (.cells #[.int .i64 op, .int .i64 a, .int .i64 b, .int .i32 n, .int .i64 f] 25)) 56 [.int .i64 0, .int .i64 0, .int .u32 0]
    rw [World.size_alloc] at this
    exact this
  clear qa qb ca cb
  go_wp2_with (first
    | (go_at_call 82; refine (Hn.out _ (((hT.alloc _).alloc _).drewN nq)).mono ?_; rintro e w2 ⟨rfl, hb2⟩; have hC2 := ((((CW.start HB.out).alloc _).alloc _).drewN nq).below hb2; have hX2 := hX0.below hb2 hX0.lt; have q2 := (hC2.blk.cell a).trans Hx.out; have f2 := hC2.blk.free a; have HC2 := Lib.hid hC2; clear hC2)
    | (go_at_call 83; refine (truth_any _ _).mono ?_; rintro e w4 ⟨rfl, rfl⟩)
    | ((with_reducible show wpList _ _ _ (Oper.mk none (Op.store _ (Operand.tmp 8) (Operand.tmp 173)) _ _ _ _ :: _) _ _); refine wpList_st3 (hX2.other (by show w.heap.size + 1 ≠ g; omega)) rfl 56 (.tmp 8) (.tmp 173) (.int .i64 0) (.int .i64 0) (.int .u32 0) rfl (by kernel_rfl) (by kernel_rfl) (by simp [Value.oneCell']) (by kernel_rfl) ?_; rintro ⟨z0, z1, z2⟩)
    | fail)
  refine bodyPost_ret (v := .agg #[.int .i64 0, .int .i64 0, .int .u32 0]) (by simp [results, Tryd.results60, go_sem, z0, z1, z2]) rfl ⟨rfl, ?_⟩
  exact CW.farCells (by omega) _ _ _ (HC2.out.setReg a _)

set_option maxRecDepth 20000 in
set_option maxHeartbeats 2000000 in
theorem two_lt (op n f : Int) (a b : Nat) (M : Value) (from_ : Int) (x y : Int) (w : World) (g : Nat) (cells : List Value) (hT : TabIs 0 w) (htg : 0 ≠ g) (hB : Blk w g 119 cells) (ha : a < 8) (hb : b < 8)
    (hx : cells[a]? = some (.int .i32 x)) (hy : cells[b]? = some (.int .i32 y)) (hx0 : -2147483648 ≤ x) (hx1 : x ≤ 2147483647) (hy0 : -2147483648 ≤ y) (hy1 : y ≤ 2147483647)  (hnm : opName op = [108, 116]) :
    Calls Tryd.prog 60 #[.pointer (some ⟨g, 0, none⟩), .agg #[.int .i64 op, .int .i64 a, .int .i64 b, .int .i32 n, .int .i64 f], M, .int .i64 from_] w fun e w' => e = .returned (.agg #[.int .i64 0, .int .i64 0, .int .u32 0]) ∧ CW w g (cells.set a (.int .i32 (b01 (decide (x < y))))) w' := by
  have hg := hB.lt
  have Hn := Lib.hid (fun w hT => hnm ▸ cname_any op w hT)
  have HB := Lib.hid hB
  have ca := (hB.cell a).trans hx
  have cb := (hB.cell b).trans hy
  have qa : ((w.alloc (.cells #[.int .i64 op, .int .i64 a, .int .i64 b, .int .i32 n, .int .i64 f] 25)).alloc (.cells #[.int .i64 0, .int .i64 0, .int .u32 0] 56)).cell? ⟨g, a, none⟩ = some (.int .i32 x) := by
    rw [World.cell?_alloc_lt _ _ ⟨g, a, none⟩ (by simp; omega), World.cell?_alloc_lt _ _ ⟨g, a, none⟩ hg]; exact ca
  have qb : ((w.alloc (.cells #[.int .i64 op, .int .i64 a, .int .i64 b, .int .i32 n, .int .i64 f] 25)).alloc (.cells #[.int .i64 0, .int .i64 0, .int .u32 0] 56)).cell? ⟨g, b, none⟩ = some (.int .i32 y) := by
    rw [World.cell?_alloc_lt _ _ ⟨g, b, none⟩ (by simp; omega), World.cell?_alloc_lt _ _ ⟨g, b, none⟩ hg]; exact cb
  have Hx := Lib.hid hx
  clear hB hx hy
  go_enter Tryd.func60, Tryd.ntmps60
  go_wp2_with fail
  go_quiet (fail)
  have hX0 : Blk (((w.alloc (.cells #[.int .i64 op, .int .i64 a, .int .i64 b, .int .i32 n, .int .i64 f] 25)).alloc (.cells #[.int .i64 0, .int .i64 0, .int .u32 0] 56)).drewN nq) (w.heap.size + 1) 56 [.int .i64 0, .int .i64 0, .int .u32 0] := by
    have := Blk.new (w.alloc (.cells #[.int .i64 op, .int .i64 a, .int .i64 b, .int .i32 n, .int .i64 f] 25)) 56 [.int .i64 0, .int .i64 0, .int .u32 0]
    rw [World.size_alloc] at this
    exact this
  clear qa qb ca cb
  go_wp2_with (first
    | (go_at_call 82; refine (Hn.out _ (((hT.alloc _).alloc _).drewN nq)).mono ?_; rintro e w2 ⟨rfl, hb2⟩; have hC2 := ((((CW.start HB.out).alloc _).alloc _).drewN nq).below hb2; have hX2 := hX0.below hb2 hX0.lt; have q2 := (hC2.blk.cell a).trans Hx.out; have f2 := hC2.blk.free a; have HC2 := Lib.hid hC2; clear hC2)
    | (go_at_call 83; refine (truth_any _ _).mono ?_; rintro e w4 ⟨rfl, rfl⟩)
    | ((with_reducible show wpList _ _ _ (Oper.mk none (Op.store _ (Operand.tmp 8) (Operand.tmp 173)) _ _ _ _ :: _) _ _); refine wpList_st3 (hX2.other (by show w.heap.size + 1 ≠ g; omega)) rfl 56 (.tmp 8) (.tmp 173) (.int .i64 0) (.int .i64 0) (.int .u32 0) rfl (by kernel_rfl) (by kernel_rfl) (by simp [Value.oneCell']) (by kernel_rfl) ?_; rintro ⟨z0, z1, z2⟩)
    | fail)
  refine bodyPost_ret (v := .agg #[.int .i64 0, .int .i64 0, .int .u32 0]) (by simp [results, Tryd.results60, go_sem, z0, z1, z2]) rfl ⟨rfl, ?_⟩
  exact CW.farCells (by omega) _ _ _ (HC2.out.setReg a _)

set_option maxRecDepth 20000 in
set_option maxHeartbeats 2000000 in
theorem two_eq (op n f : Int) (a b : Nat) (M : Value) (from_ : Int) (x y : Int) (w : World) (g : Nat) (cells : List Value) (hT : TabIs 0 w) (htg : 0 ≠ g) (hB : Blk w g 119 cells) (ha : a < 8) (hb : b < 8)
    (hx : cells[a]? = some (.int .i32 x)) (hy : cells[b]? = some (.int .i32 y)) (hx0 : -2147483648 ≤ x) (hx1 : x ≤ 2147483647) (hy0 : -2147483648 ≤ y) (hy1 : y ≤ 2147483647)  (hnm : opName op = [101, 113]) :
    Calls Tryd.prog 60 #[.pointer (some ⟨g, 0, none⟩), .agg #[.int .i64 op, .int .i64 a, .int .i64 b, .int .i32 n, .int .i64 f], M, .int .i64 from_] w fun e w' => e = .returned (.agg #[.int .i64 0, .int .i64 0, .int .u32 0]) ∧ CW w g (cells.set a (.int .i32 (b01 (x == y)))) w' := by
  have hg := hB.lt
  have Hn := Lib.hid (fun w hT => hnm ▸ cname_any op w hT)
  have HB := Lib.hid hB
  have ca := (hB.cell a).trans hx
  have cb := (hB.cell b).trans hy
  have qa : ((w.alloc (.cells #[.int .i64 op, .int .i64 a, .int .i64 b, .int .i32 n, .int .i64 f] 25)).alloc (.cells #[.int .i64 0, .int .i64 0, .int .u32 0] 56)).cell? ⟨g, a, none⟩ = some (.int .i32 x) := by
    rw [World.cell?_alloc_lt _ _ ⟨g, a, none⟩ (by simp; omega), World.cell?_alloc_lt _ _ ⟨g, a, none⟩ hg]; exact ca
  have qb : ((w.alloc (.cells #[.int .i64 op, .int .i64 a, .int .i64 b, .int .i32 n, .int .i64 f] 25)).alloc (.cells #[.int .i64 0, .int .i64 0, .int .u32 0] 56)).cell? ⟨g, b, none⟩ = some (.int .i32 y) := by
    rw [World.cell?_alloc_lt _ _ ⟨g, b, none⟩ (by simp; omega), World.cell?_alloc_lt _ _ ⟨g, b, none⟩ hg]; exact cb
  have Hx := Lib.hid hx
  clear hB hx hy
  go_enter Tryd.func60, Tryd.ntmps60
  go_wp2_with fail
  go_quiet (fail)
  have hX0 : Blk (((w.alloc (.cells #[.int .i64 op, .int .i64 a, .int .i64 b, .int .i32 n, .int .i64 f] 25)).alloc (.cells #[.int .i64 0, .int .i64 0, .int .u32 0] 56)).drewN nq) (w.heap.size + 1) 56 [.int .i64 0, .int .i64 0, .int .u32 0] := by
    have := Blk.new (w.alloc (.cells #[.int .i64 op, .int .i64 a, .int .i64 b, .int .i32 n, .int .i64 f] 25)) 56 [.int .i64 0, .int .i64 0, .int .u32 0]
    rw [World.size_alloc] at this
    exact this
  clear qa qb ca cb
  go_wp2_with (first
    | (go_at_call 82; refine (Hn.out _ (((hT.alloc _).alloc _).drewN nq)).mono ?_; rintro e w2 ⟨rfl, hb2⟩; have hC2 := ((((CW.start HB.out).alloc _).alloc _).drewN nq).below hb2; have hX2 := hX0.below hb2 hX0.lt; have q2 := (hC2.blk.cell a).trans Hx.out; have f2 := hC2.blk.free a; have HC2 := Lib.hid hC2; clear hC2)
    | (go_at_call 83; refine (truth_any _ _).mono ?_; rintro e w4 ⟨rfl, rfl⟩)
    | ((with_reducible show wpList _ _ _ (Oper.mk none (Op.store _ (Operand.tmp 8) (Operand.tmp 173)) _ _ _ _ :: _) _ _); refine wpList_st3 (hX2.other (by show w.heap.size + 1 ≠ g; omega)) rfl 56 (.tmp 8) (.tmp 173) (.int .i64 0) (.int .i64 0) (.int .u32 0) rfl (by kernel_rfl) (by kernel_rfl) (by simp [Value.oneCell']) (by kernel_rfl) ?_; rintro ⟨z0, z1, z2⟩)
    | fail)
  refine bodyPost_ret (v := .agg #[.int .i64 0, .int .i64 0, .int .u32 0]) (by simp [results, Tryd.results60, go_sem, z0, z1, z2]) rfl ⟨rfl, ?_⟩
  exact CW.farCells (by omega) _ _ _ (HC2.out.setReg a _)
end Go.Proofs.YthcjnkakfpmpbaaDoor
