/- The walks of cpu's operations with one register: neg, not; what a register holds. Conditions: the table of operations is laid; the register is there. -/
import Derived.Test.YthcjnkakfpmpbaaDoorC2
import Derived.Deep.QuietTactic
import Derived.BigQuiet
namespace Go.Proofs.YthcjnkakfpmpbaaDoor
open Go.RowKit
set_option linter.unusedVariables false
set_option linter.unusedSimpArgs false


set_option maxRecDepth 20000 in
set_option maxHeartbeats 2000000 in
theorem one_neg (op b n f : Int) (a : Nat) (x : Int) (w : World) (g : Nat) (cells : List Value) (hT : TabIs 0 w) (htg : 0 ≠ g) (hB : Blk w g 119 cells) (ha : a < 8) (hx : cells[a]? = some (.int .i32 x)) (hx0 : -2147483648 ≤ x) (hx1 : x ≤ 2147483647) (hnm : opName op = [110, 101, 103]) :
    Calls Tryd.prog 59 #[.pointer (some ⟨g, 0, none⟩), .agg #[.int .i64 op, .int .i64 a, .int .i64 b, .int .i32 n, .int .i64 f]] w fun e w' => e = .returned (.agg #[.int .i64 0, .int .i64 0, .int .u32 0]) ∧ CW w g (cells.set a (.int .i32 (wrap32 (-x)))) w' := by
  have hg := hB.lt
  have Hn := Lib.hid (fun w hT => hnm ▸ cname_any op w hT)
  have HB := Lib.hid hB
  have Hx := Lib.hid hx
  clear hB hx
  have hX0 : Blk ((w.alloc (.cells #[.int .i64 op, .int .i64 a, .int .i64 b, .int .i32 n, .int .i64 f] 25)).alloc (.cells #[.int .i64 0, .int .i64 0, .int .u32 0] 56)) (w.heap.size + 1) 56 [.int .i64 0, .int .i64 0, .int .u32 0] := by
    have := Blk.new (w.alloc (.cells #[.int .i64 op, .int .i64 a, .int .i64 b, .int .i32 n, .int .i64 f] 25)) 56 [.int .i64 0, .int .i64 0, .int .u32 0]
    rw [World.size_alloc] at this
    exact this
  go_enter Tryd.func59, Tryd.ntmps59
  go_wp2_with fail
  go_quiet (fail)
  have hX1 : Blk (((w.alloc (.cells #[.int .i64 op, .int .i64 a, .int .i64 b, .int .i32 n, .int .i64 f] 25)).alloc (.cells #[.int .i64 0, .int .i64 0, .int .u32 0] 56)).drewN nq) (w.heap.size + 1) 56 [.int .i64 0, .int .i64 0, .int .u32 0] := hX0
  go_wp2_with (first
    | (go_at_call 82; refine (Hn.out _ (((hT.alloc _).alloc _).drewN nq)).mono ?_; rintro e w2 ⟨rfl, hb2⟩; have hC2 := ((((CW.start HB.out).alloc _).alloc _).drewN nq).below hb2; have hX2 := hX1.below hb2 hX1.lt; have q2 := (hC2.blk.cell a).trans Hx.out; have f2 := hC2.blk.free a; have HC2 := Lib.hid hC2; clear hC2)
    | ((with_reducible show wpList _ _ _ (Oper.mk none (Op.store _ (Operand.tmp 4) (Operand.tmp 136)) _ _ _ _ :: _) _ _); refine wpList_st3 (hX2.other (by show w.heap.size + 1 ≠ g; omega)) rfl 56 (.tmp 4) (.tmp 136) (.int .i64 0) (.int .i64 0) (.int .u32 0) rfl (by kernel_rfl) (by kernel_rfl) (by simp [Value.oneCell']) (by kernel_rfl) ?_; rintro ⟨z0, z1, z2⟩)
    | fail)
  have e1 : (if IntKind.i32.signed = true then (-1 : Int) else IntKind.i32.max) = -1 := rfl
  (try rw [e1] at z0 z1 z2)
  (try rw [e1])
  clear e1
  refine bodyPost_ret (v := .agg #[.int .i64 0, .int .i64 0, .int .u32 0]) (by simp [results, Tryd.results59, go_sem, z0, z1, z2]) rfl ⟨rfl, ?_⟩
  exact CW.farCells (by omega) _ _ _ (HC2.out.setReg a _)

set_option maxRecDepth 20000 in
set_option maxHeartbeats 2000000 in
theorem one_not (op b n f : Int) (a : Nat) (x : Int) (w : World) (g : Nat) (cells : List Value) (hT : TabIs 0 w) (htg : 0 ≠ g) (hB : Blk w g 119 cells) (ha : a < 8) (hx : cells[a]? = some (.int .i32 x)) (hx0 : -2147483648 ≤ x) (hx1 : x ≤ 2147483647) (hnm : opName op = [110, 111, 116]) :
    Calls Tryd.prog 59 #[.pointer (some ⟨g, 0, none⟩), .agg #[.int .i64 op, .int .i64 a, .int .i64 b, .int .i32 n, .int .i64 f]] w fun e w' => e = .returned (.agg #[.int .i64 0, .int .i64 0, .int .u32 0]) ∧ CW w g (cells.set a (.int .i32 (bits BinOp.xor IntKind.i32 (-1) x))) w' := by
  have hg := hB.lt
  have Hn := Lib.hid (fun w hT => hnm ▸ cname_any op w hT)
  have HB := Lib.hid hB
  have Hx := Lib.hid hx
  clear hB hx
  have hX0 : Blk ((w.alloc (.cells #[.int .i64 op, .int .i64 a, .int .i64 b, .int .i32 n, .int .i64 f] 25)).alloc (.cells #[.int .i64 0, .int .i64 0, .int .u32 0] 56)) (w.heap.size + 1) 56 [.int .i64 0, .int .i64 0, .int .u32 0] := by
    have := Blk.new (w.alloc (.cells #[.int .i64 op, .int .i64 a, .int .i64 b, .int .i32 n, .int .i64 f] 25)) 56 [.int .i64 0, .int .i64 0, .int .u32 0]
    rw [World.size_alloc] at this
    exact this
  go_enter Tryd.func59, Tryd.ntmps59
  go_wp2_with fail
  go_quiet (fail)
  have hX1 : Blk (((w.alloc (.cells #[.int .i64 op, .int .i64 a, .int .i64 b, .int .i32 n, .int .i64 f] 25)).alloc (.cells #[.int .i64 0, .int .i64 0, .int .u32 0] 56)).drewN nq) (w.heap.size + 1) 56 [.int .i64 0, .int .i64 0, .int .u32 0] := hX0
  go_wp2_with (first
    | (go_at_call 82; refine (Hn.out _ (((hT.alloc _).alloc _).drewN nq)).mono ?_; rintro e w2 ⟨rfl, hb2⟩; have hC2 := ((((CW.start HB.out).alloc _).alloc _).drewN nq).below hb2; have hX2 := hX1.below hb2 hX1.lt; have q2 := (hC2.blk.cell a).trans Hx.out; have f2 := hC2.blk.free a; have HC2 := Lib.hid hC2; clear hC2)
    | ((with_reducible show wpList _ _ _ (Oper.mk none (Op.store _ (Operand.tmp 4) (Operand.tmp 136)) _ _ _ _ :: _) _ _); refine wpList_st3 (hX2.other (by show w.heap.size + 1 ≠ g; omega)) rfl 56 (.tmp 4) (.tmp 136) (.int .i64 0) (.int .i64 0) (.int .u32 0) rfl (by kernel_rfl) (by kernel_rfl) (by simp [Value.oneCell']) (by kernel_rfl) ?_; rintro ⟨z0, z1, z2⟩)
    | fail)
  have e1 : (if IntKind.i32.signed = true then (-1 : Int) else IntKind.i32.max) = -1 := rfl
  (try rw [e1] at z0 z1 z2)
  (try rw [e1])
  clear e1
  refine bodyPost_ret (v := .agg #[.int .i64 0, .int .i64 0, .int .u32 0]) (by simp [results, Tryd.results59, go_sem, z0, z1, z2]) rfl ⟨rfl, ?_⟩
  exact CW.farCells (by omega) _ _ _ (HC2.out.setReg a _)

theorem reg_any (a : Nat) (x : Int) (w : World) (g : Nat) (cells : List Value) (hB : Blk w g 119 cells) (ha : a < 8) (hx : cells[a]? = some (.int .i32 x)) :
    Calls Tryd.prog 28 #[.pointer (some ⟨g, 0, none⟩), .int .i64 a] w fun e w' => e = .returned (.int .i32 x) ∧ w = w' := by
  have q := (hB.cell a).trans hx
  have hA : (a : Int) < 8 := by omega
  clear hB hx
  go_enter Tryd.func28, Tryd.ntmps28
  go_wp2_with fail
  go_ret
  exact ⟨rfl, rfl⟩
end Go.Proofs.YthcjnkakfpmpbaaDoor
