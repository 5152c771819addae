/- Single instructions: what op makes, what Do does. Conditions: the table of operations is laid; the registers are there. -/
import Derived.Test.YthcjnkakfpmpbaaDoorC3
import Derived.Test.YthcjnkakfpmpbaaDoorC4
import Derived.Test.YthcjnkakfpmpbaaDoorC6
import Derived.Test.YthcjnkakfpmpbaaDoorC7
import Derived.Test.YthcjnkakfpmpbaaDoorC8
import Derived.Test.YthcjnkakfpmpbaaDoorC10
namespace Go.Proofs.YthcjnkakfpmpbaaDoor
open Go.RowKit
set_option linter.unusedVariables false
set_option linter.unusedSimpArgs false
set_option maxRecDepth 20000

theorem op_mov  (w : World) : Calls Tryd.prog 27 #[.string ⟨#[109, 111, 118]⟩, .int .i64 1, .int .i64 2, .int .i32 0] w fun e w' => e = .returned (.agg #[.int .i64 13, .int .i64 1, .int .i64 2, .int .i32 0, .int .i64 0]) ∧ Below w.heap.size w w' := by
  have h := op_any ⟨#[109, 111, 118]⟩ 1 2 0 w
  rwa [show findR (ByteArray.toList ⟨#[109, 111, 118]⟩) = 13 from by kernel_rfl] at h
theorem o_mov (word from_ : Int) (M : Value) (x y : Int) (w : World) (g : Nat) (cells : List Value) (hT : TabIs 0 w) (htg : 0 ≠ g) (hB : Blk w g 119 cells) (hx : cells[1]? = some (.int .i32 x)) (hy : cells[2]? = some (.int .i32 y)) (x0 : -2147483648 ≤ x) (x1 : x ≤ 2147483647) (y0 : -2147483648 ≤ y) (y1 : y ≤ 2147483647) :
    Calls Tryd.prog 26 #[.pointer (some ⟨g, 0, none⟩), .agg #[.int .i64 13, .int .i64 1, .int .i64 2, .int .i32 0, .int .i64 0], .int .i32 word, M, .int .i64 from_] w fun e w' => e = .returned (.agg #[.int .i64 0, .int .i64 0, .int .u32 0]) ∧ CW w g (cells.set 1 (.int .i32 (y))) w' :=
  do_two 13 0 0 word from_ 1 2 M 0 0 0 w g cells _ hT htg hB (by omega) (by kernel_rfl) (by kernel_rfl) (Lib.hid fun W hT hB => two_mov 13 0 0 1 2 M from_ x y W g cells hT htg hB (by omega) (by omega) hx hy x0 x1 y0 y1 (by kernel_rfl))
theorem op_add  (w : World) : Calls Tryd.prog 27 #[.string ⟨#[97, 100, 100]⟩, .int .i64 1, .int .i64 2, .int .i32 0] w fun e w' => e = .returned (.agg #[.int .i64 14, .int .i64 1, .int .i64 2, .int .i32 0, .int .i64 0]) ∧ Below w.heap.size w w' := by
  have h := op_any ⟨#[97, 100, 100]⟩ 1 2 0 w
  rwa [show findR (ByteArray.toList ⟨#[97, 100, 100]⟩) = 14 from by kernel_rfl] at h
theorem o_add (word from_ : Int) (M : Value) (x y : Int) (w : World) (g : Nat) (cells : List Value) (hT : TabIs 0 w) (htg : 0 ≠ g) (hB : Blk w g 119 cells) (hx : cells[1]? = some (.int .i32 x)) (hy : cells[2]? = some (.int .i32 y)) (x0 : -2147483648 ≤ x) (x1 : x ≤ 2147483647) (y0 : -2147483648 ≤ y) (y1 : y ≤ 2147483647) :
    Calls Tryd.prog 26 #[.pointer (some ⟨g, 0, none⟩), .agg #[.int .i64 14, .int .i64 1, .int .i64 2, .int .i32 0, .int .i64 0], .int .i32 word, M, .int .i64 from_] w fun e w' => e = .returned (.agg #[.int .i64 0, .int .i64 0, .int .u32 0]) ∧ CW w g (cells.set 1 (.int .i32 (wrap32 (x + y)))) w' :=
  do_two 14 0 0 word from_ 1 2 M 0 0 0 w g cells _ hT htg hB (by omega) (by kernel_rfl) (by kernel_rfl) (Lib.hid fun W hT hB => two_add 14 0 0 1 2 M from_ x y W g cells hT htg hB (by omega) (by omega) hx hy x0 x1 y0 y1 (by kernel_rfl))
theorem op_sub  (w : World) : Calls Tryd.prog 27 #[.string ⟨#[115, 117, 98]⟩, .int .i64 1, .int .i64 2, .int .i32 0] w fun e w' => e = .returned (.agg #[.int .i64 15, .int .i64 1, .int .i64 2, .int .i32 0, .int .i64 0]) ∧ Below w.heap.size w w' := by
  have h := op_any ⟨#[115, 117, 98]⟩ 1 2 0 w
  rwa [show findR (ByteArray.toList ⟨#[115, 117, 98]⟩) = 15 from by kernel_rfl] at h
theorem o_sub (word from_ : Int) (M : Value) (x y : Int) (w : World) (g : Nat) (cells : List Value) (hT : TabIs 0 w) (htg : 0 ≠ g) (hB : Blk w g 119 cells) (hx : cells[1]? = some (.int .i32 x)) (hy : cells[2]? = some (.int .i32 y)) (x0 : -2147483648 ≤ x) (x1 : x ≤ 2147483647) (y0 : -2147483648 ≤ y) (y1 : y ≤ 2147483647) :
    Calls Tryd.prog 26 #[.pointer (some ⟨g, 0, none⟩), .agg #[.int .i64 15, .int .i64 1, .int .i64 2, .int .i32 0, .int .i64 0], .int .i32 word, M, .int .i64 from_] w fun e w' => e = .returned (.agg #[.int .i64 0, .int .i64 0, .int .u32 0]) ∧ CW w g (cells.set 1 (.int .i32 (wrap32 (x - y)))) w' :=
  do_two 15 0 0 word from_ 1 2 M 0 0 0 w g cells _ hT htg hB (by omega) (by kernel_rfl) (by kernel_rfl) (Lib.hid fun W hT hB => two_sub 15 0 0 1 2 M from_ x y W g cells hT htg hB (by omega) (by omega) hx hy x0 x1 y0 y1 (by kernel_rfl))
theorem op_mul  (w : World) : Calls Tryd.prog 27 #[.string ⟨#[109, 117, 108]⟩, .int .i64 1, .int .i64 2, .int .i32 0] w fun e w' => e = .returned (.agg #[.int .i64 16, .int .i64 1, .int .i64 2, .int .i32 0, .int .i64 0]) ∧ Below w.heap.size w w' := by
  have h := op_any ⟨#[109, 117, 108]⟩ 1 2 0 w
  rwa [show findR (ByteArray.toList ⟨#[109, 117, 108]⟩) = 16 from by kernel_rfl] at h
theorem o_mul (word from_ : Int) (M : Value) (x y : Int) (w : World) (g : Nat) (cells : List Value) (hT : TabIs 0 w) (htg : 0 ≠ g) (hB : Blk w g 119 cells) (hx : cells[1]? = some (.int .i32 x)) (hy : cells[2]? = some (.int .i32 y)) (x0 : -2147483648 ≤ x) (x1 : x ≤ 2147483647) (y0 : -2147483648 ≤ y) (y1 : y ≤ 2147483647) :
    Calls Tryd.prog 26 #[.pointer (some ⟨g, 0, none⟩), .agg #[.int .i64 16, .int .i64 1, .int .i64 2, .int .i32 0, .int .i64 0], .int .i32 word, M, .int .i64 from_] w fun e w' => e = .returned (.agg #[.int .i64 0, .int .i64 0, .int .u32 0]) ∧ CW w g (cells.set 1 (.int .i32 (wrap32 (x * y)))) w' :=
  do_two 16 0 0 word from_ 1 2 M 0 0 0 w g cells _ hT htg hB (by omega) (by kernel_rfl) (by kernel_rfl) (Lib.hid fun W hT hB => two_mul 16 0 0 1 2 M from_ x y W g cells hT htg hB (by omega) (by omega) hx hy x0 x1 y0 y1 (by kernel_rfl))
theorem op_div  (w : World) : Calls Tryd.prog 27 #[.string ⟨#[100, 105, 118]⟩, .int .i64 1, .int .i64 2, .int .i32 0] w fun e w' => e = .returned (.agg #[.int .i64 17, .int .i64 1, .int .i64 2, .int .i32 0, .int .i64 0]) ∧ Below w.heap.size w w' := by
  have h := op_any ⟨#[100, 105, 118]⟩ 1 2 0 w
  rwa [show findR (ByteArray.toList ⟨#[100, 105, 118]⟩) = 17 from by kernel_rfl] at h
theorem o_div (word from_ : Int) (M : Value) (x y : Int) (w : World) (g : Nat) (cells : List Value) (hT : TabIs 0 w) (htg : 0 ≠ g) (hB : Blk w g 119 cells) (hx : cells[1]? = some (.int .i32 x)) (hy : cells[2]? = some (.int .i32 y)) (x0 : -2147483648 ≤ x) (x1 : x ≤ 2147483647) (y0 : -2147483648 ≤ y) (y1 : y ≤ 2147483647) (hyz : (y == 0) = false) (hyy : ¬ y = 0) :
    Calls Tryd.prog 26 #[.pointer (some ⟨g, 0, none⟩), .agg #[.int .i64 17, .int .i64 1, .int .i64 2, .int .i32 0, .int .i64 0], .int .i32 word, M, .int .i64 from_] w fun e w' => e = .returned (.agg #[.int .i64 0, .int .i64 0, .int .u32 0]) ∧ CW w g (cells.set 1 (.int .i32 (wrap32 (x.tdiv y)))) w' :=
  do_two 17 0 0 word from_ 1 2 M 0 0 0 w g cells _ hT htg hB (by omega) (by kernel_rfl) (by kernel_rfl) (Lib.hid fun W hT hB => two_div 17 0 0 1 2 M from_ x y W g cells hT htg hB (by omega) (by omega) hx hy x0 x1 y0 y1 hyz hyy (by kernel_rfl))
theorem op_and  (w : World) : Calls Tryd.prog 27 #[.string ⟨#[97, 110, 100]⟩, .int .i64 1, .int .i64 2, .int .i32 0] w fun e w' => e = .returned (.agg #[.int .i64 18, .int .i64 1, .int .i64 2, .int .i32 0, .int .i64 0]) ∧ Below w.heap.size w w' := by
  have h := op_any ⟨#[97, 110, 100]⟩ 1 2 0 w
  rwa [show findR (ByteArray.toList ⟨#[97, 110, 100]⟩) = 18 from by kernel_rfl] at h
theorem o_and (word from_ : Int) (M : Value) (x y : Int) (w : World) (g : Nat) (cells : List Value) (hT : TabIs 0 w) (htg : 0 ≠ g) (hB : Blk w g 119 cells) (hx : cells[1]? = some (.int .i32 x)) (hy : cells[2]? = some (.int .i32 y)) (x0 : -2147483648 ≤ x) (x1 : x ≤ 2147483647) (y0 : -2147483648 ≤ y) (y1 : y ≤ 2147483647) :
    Calls Tryd.prog 26 #[.pointer (some ⟨g, 0, none⟩), .agg #[.int .i64 18, .int .i64 1, .int .i64 2, .int .i32 0, .int .i64 0], .int .i32 word, M, .int .i64 from_] w fun e w' => e = .returned (.agg #[.int .i64 0, .int .i64 0, .int .u32 0]) ∧ CW w g (cells.set 1 (.int .i32 (bits BinOp.and IntKind.i32 x y))) w' :=
  do_two 18 0 0 word from_ 1 2 M 0 0 0 w g cells _ hT htg hB (by omega) (by kernel_rfl) (by kernel_rfl) (Lib.hid fun W hT hB => two_and 18 0 0 1 2 M from_ x y W g cells hT htg hB (by omega) (by omega) hx hy x0 x1 y0 y1 (by kernel_rfl))
theorem op_or  (w : World) : Calls Tryd.prog 27 #[.string ⟨#[111, 114]⟩, .int .i64 1, .int .i64 2, .int .i32 0] w fun e w' => e = .returned (.agg #[.int .i64 19, .int .i64 1, .int .i64 2, .int .i32 0, .int .i64 0]) ∧ Below w.heap.size w w' := by
  have h := op_any ⟨#[111, 114]⟩ 1 2 0 w
  rwa [show findR (ByteArray.toList ⟨#[111, 114]⟩) = 19 from by kernel_rfl] at h
theorem o_or (word from_ : Int) (M : Value) (x y : Int) (w : World) (g : Nat) (cells : List Value) (hT : TabIs 0 w) (htg : 0 ≠ g) (hB : Blk w g 119 cells) (hx : cells[1]? = some (.int .i32 x)) (hy : cells[2]? = some (.int .i32 y)) (x0 : -2147483648 ≤ x) (x1 : x ≤ 2147483647) (y0 : -2147483648 ≤ y) (y1 : y ≤ 2147483647) :
    Calls Tryd.prog 26 #[.pointer (some ⟨g, 0, none⟩), .agg #[.int .i64 19, .int .i64 1, .int .i64 2, .int .i32 0, .int .i64 0], .int .i32 word, M, .int .i64 from_] w fun e w' => e = .returned (.agg #[.int .i64 0, .int .i64 0, .int .u32 0]) ∧ CW w g (cells.set 1 (.int .i32 (bits BinOp.or IntKind.i32 x y))) w' :=
  do_two 19 0 0 word from_ 1 2 M 0 0 0 w g cells _ hT htg hB (by omega) (by kernel_rfl) (by kernel_rfl) (Lib.hid fun W hT hB => two_or 19 0 0 1 2 M from_ x y W g cells hT htg hB (by omega) (by omega) hx hy x0 x1 y0 y1 (by kernel_rfl))
theorem op_xor  (w : World) : Calls Tryd.prog 27 #[.string ⟨#[120, 111, 114]⟩, .int .i64 1, .int .i64 2, .int .i32 0] w fun e w' => e = .returned (.agg #[.int .i64 20, .int .i64 1, .int .i64 2, .int .i32 0, .int .i64 0]) ∧ Below w.heap.size w w' := by
  have h := op_any ⟨#[120, 111, 114]⟩ 1 2 0 w
  rwa [show findR (ByteArray.toList ⟨#[120, 111, 114]⟩) = 20 from by kernel_rfl] at h
theorem o_xor (word from_ : Int) (M : Value) (x y : Int) (w : World) (g : Nat) (cells : List Value) (hT : TabIs 0 w) (htg : 0 ≠ g) (hB : Blk w g 119 cells) (hx : cells[1]? = some (.int .i32 x)) (hy : cells[2]? = some (.int .i32 y)) (x0 : -2147483648 ≤ x) (x1 : x ≤ 2147483647) (y0 : -2147483648 ≤ y) (y1 : y ≤ 2147483647) :
    Calls Tryd.prog 26 #[.pointer (some ⟨g, 0, none⟩), .agg #[.int .i64 20, .int .i64 1, .int .i64 2, .int .i32 0, .int .i64 0], .int .i32 word, M, .int .i64 from_] w fun e w' => e = .returned (.agg #[.int .i64 0, .int .i64 0, .int .u32 0]) ∧ CW w g (cells.set 1 (.int .i32 (bits BinOp.xor IntKind.i32 x y))) w' :=
  do_two 20 0 0 word from_ 1 2 M 0 0 0 w g cells _ hT htg hB (by omega) (by kernel_rfl) (by kernel_rfl) (Lib.hid fun W hT hB => two_xor 20 0 0 1 2 M from_ x y W g cells hT htg hB (by omega) (by omega) hx hy x0 x1 y0 y1 (by kernel_rfl))
theorem op_lt  (w : World) : Calls Tryd.prog 27 #[.string ⟨#[108, 116]⟩, .int .i64 1, .int .i64 2, .int .i32 0] w fun e w' => e = .returned (.agg #[.int .i64 23, .int .i64 1, .int .i64 2, .int .i32 0, .int .i64 0]) ∧ Below w.heap.size w w' := by
  have h := op_any ⟨#[108, 116]⟩ 1 2 0 w
  rwa [show findR (ByteArray.toList ⟨#[108, 116]⟩) = 23 from by kernel_rfl] at h
theorem o_lt (word from_ : Int) (M : Value) (x y : Int) (w : World) (g : Nat) (cells : List Value) (hT : TabIs 0 w) (htg : 0 ≠ g) (hB : Blk w g 119 cells) (hx : cells[1]? = some (.int .i32 x)) (hy : cells[2]? = some (.int .i32 y)) (x0 : -2147483648 ≤ x) (x1 : x ≤ 2147483647) (y0 : -2147483648 ≤ y) (y1 : y ≤ 2147483647) :
    Calls Tryd.prog 26 #[.pointer (some ⟨g, 0, none⟩), .agg #[.int .i64 23, .int .i64 1, .int .i64 2, .int .i32 0, .int .i64 0], .int .i32 word, M, .int .i64 from_] w fun e w' => e = .returned (.agg #[.int .i64 0, .int .i64 0, .int .u32 0]) ∧ CW w g (cells.set 1 (.int .i32 (b01 (decide (x < y))))) w' :=
  do_two 23 0 0 word from_ 1 2 M 0 0 0 w g cells _ hT htg hB (by omega) (by kernel_rfl) (by kernel_rfl) (Lib.hid fun W hT hB => two_lt 23 0 0 1 2 M from_ x y W g cells hT htg hB (by omega) (by omega) hx hy x0 x1 y0 y1 (by kernel_rfl))
theorem op_eq  (w : World) : Calls Tryd.prog 27 #[.string ⟨#[101, 113]⟩, .int .i64 1, .int .i64 2, .int .i32 0] w fun e w' => e = .returned (.agg #[.int .i64 24, .int .i64 1, .int .i64 2, .int .i32 0, .int .i64 0]) ∧ Below w.heap.size w w' := by
  have h := op_any ⟨#[101, 113]⟩ 1 2 0 w
  rwa [show findR (ByteArray.toList ⟨#[101, 113]⟩) = 24 from by kernel_rfl] at h
theorem o_eq (word from_ : Int) (M : Value) (x y : Int) (w : World) (g : Nat) (cells : List Value) (hT : TabIs 0 w) (htg : 0 ≠ g) (hB : Blk w g 119 cells) (hx : cells[1]? = some (.int .i32 x)) (hy : cells[2]? = some (.int .i32 y)) (x0 : -2147483648 ≤ x) (x1 : x ≤ 2147483647) (y0 : -2147483648 ≤ y) (y1 : y ≤ 2147483647) :
    Calls Tryd.prog 26 #[.pointer (some ⟨g, 0, none⟩), .agg #[.int .i64 24, .int .i64 1, .int .i64 2, .int .i32 0, .int .i64 0], .int .i32 word, M, .int .i64 from_] w fun e w' => e = .returned (.agg #[.int .i64 0, .int .i64 0, .int .u32 0]) ∧ CW w g (cells.set 1 (.int .i32 (b01 (x == y)))) w' :=
  do_two 24 0 0 word from_ 1 2 M 0 0 0 w g cells _ hT htg hB (by omega) (by kernel_rfl) (by kernel_rfl) (Lib.hid fun W hT hB => two_eq 24 0 0 1 2 M from_ x y W g cells hT htg hB (by omega) (by omega) hx hy x0 x1 y0 y1 (by kernel_rfl))
theorem op_neg  (w : World) : Calls Tryd.prog 27 #[.string ⟨#[110, 101, 103]⟩, .int .i64 1, .int .i64 0, .int .i32 0] w fun e w' => e = .returned (.agg #[.int .i64 9, .int .i64 1, .int .i64 0, .int .i32 0, .int .i64 0]) ∧ Below w.heap.size w w' := by
  have h := op_any ⟨#[110, 101, 103]⟩ 1 0 0 w
  rwa [show findR (ByteArray.toList ⟨#[110, 101, 103]⟩) = 9 from by kernel_rfl] at h
theorem o_neg (word from_ : Int) (M : Value) (x : Int) (w : World) (g : Nat) (cells : List Value) (hT : TabIs 0 w) (htg : 0 ≠ g) (hB : Blk w g 119 cells) (hx : cells[1]? = some (.int .i32 x)) (x0 : -2147483648 ≤ x) (x1 : x ≤ 2147483647) :
    Calls Tryd.prog 26 #[.pointer (some ⟨g, 0, none⟩), .agg #[.int .i64 9, .int .i64 1, .int .i64 0, .int .i32 0, .int .i64 0], .int .i32 word, M, .int .i64 from_] w fun e w' => e = .returned (.agg #[.int .i64 0, .int .i64 0, .int .u32 0]) ∧ CW w g (cells.set 1 (.int .i32 (wrap32 (-x)))) w' :=
  do_one 9 0 0 word from_ 1 0 M 0 0 0 w g cells _ hT htg hB (by omega) (by kernel_rfl) (by kernel_rfl) (Lib.hid fun W hT hB => one_neg 9 0 0 0 1 x W g cells hT htg hB (by omega) hx x0 x1 (by kernel_rfl))
theorem op_not  (w : World) : Calls Tryd.prog 27 #[.string ⟨#[110, 111, 116]⟩, .int .i64 1, .int .i64 0, .int .i32 0] w fun e w' => e = .returned (.agg #[.int .i64 10, .int .i64 1, .int .i64 0, .int .i32 0, .int .i64 0]) ∧ Below w.heap.size w w' := by
  have h := op_any ⟨#[110, 111, 116]⟩ 1 0 0 w
  rwa [show findR (ByteArray.toList ⟨#[110, 111, 116]⟩) = 10 from by kernel_rfl] at h
theorem o_not (word from_ : Int) (M : Value) (x : Int) (w : World) (g : Nat) (cells : List Value) (hT : TabIs 0 w) (htg : 0 ≠ g) (hB : Blk w g 119 cells) (hx : cells[1]? = some (.int .i32 x)) (x0 : -2147483648 ≤ x) (x1 : x ≤ 2147483647) :
    Calls Tryd.prog 26 #[.pointer (some ⟨g, 0, none⟩), .agg #[.int .i64 10, .int .i64 1, .int .i64 0, .int .i32 0, .int .i64 0], .int .i32 word, M, .int .i64 from_] w fun e w' => e = .returned (.agg #[.int .i64 0, .int .i64 0, .int .u32 0]) ∧ CW w g (cells.set 1 (.int .i32 (bits BinOp.xor IntKind.i32 (-1) x))) w' :=
  do_one 10 0 0 word from_ 1 0 M 0 0 0 w g cells _ hT htg hB (by omega) (by kernel_rfl) (by kernel_rfl) (Lib.hid fun W hT hB => one_not 10 0 0 0 1 x W g cells hT htg hB (by omega) hx x0 x1 (by kernel_rfl))
theorem op_li1 (n : Int) (w : World) : Calls Tryd.prog 27 #[.string ⟨#[108, 105]⟩, .int .i64 1, .int .i64 0, .int .i32 n] w fun e w' => e = .returned (.agg #[.int .i64 38, .int .i64 1, .int .i64 0, .int .i32 n, .int .i64 0]) ∧ Below w.heap.size w w' := by
  have h := op_any ⟨#[108, 105]⟩ 1 0 n w
  rwa [show findR (ByteArray.toList ⟨#[108, 105]⟩) = 38 from by kernel_rfl] at h
theorem o_li1 (word from_ : Int) (M : Value) (n : Int) (w : World) (g : Nat) (cells : List Value) (hT : TabIs 0 w) (htg : 0 ≠ g) (hB : Blk w g 119 cells) (n0 : -2147483648 ≤ n ∧ n ≤ 2147483647) (hr : RG cells) :
    Calls Tryd.prog 26 #[.pointer (some ⟨g, 0, none⟩), .agg #[.int .i64 38, .int .i64 1, .int .i64 0, .int .i32 n, .int .i64 0], .int .i32 word, M, .int .i64 from_] w fun e w' => e = .returned (.agg #[.int .i64 0, .int .i64 0, .int .u32 0]) ∧ CW w g (cells.set 1 (.int .i32 n)) w' :=
  by obtain ⟨x, hx⟩ := hr.1 1 (by omega); exact do_set10 38 0 n word from_ 1 0 M w g cells hT htg hB n0 (by kernel_rfl) (by kernel_rfl) (by omega) x hx
theorem op_li2 (n : Int) (w : World) : Calls Tryd.prog 27 #[.string ⟨#[108, 105]⟩, .int .i64 2, .int .i64 0, .int .i32 n] w fun e w' => e = .returned (.agg #[.int .i64 38, .int .i64 2, .int .i64 0, .int .i32 n, .int .i64 0]) ∧ Below w.heap.size w w' := by
  have h := op_any ⟨#[108, 105]⟩ 2 0 n w
  rwa [show findR (ByteArray.toList ⟨#[108, 105]⟩) = 38 from by kernel_rfl] at h
theorem o_li2 (word from_ : Int) (M : Value) (n : Int) (w : World) (g : Nat) (cells : List Value) (hT : TabIs 0 w) (htg : 0 ≠ g) (hB : Blk w g 119 cells) (n0 : -2147483648 ≤ n ∧ n ≤ 2147483647) (hr : RG cells) :
    Calls Tryd.prog 26 #[.pointer (some ⟨g, 0, none⟩), .agg #[.int .i64 38, .int .i64 2, .int .i64 0, .int .i32 n, .int .i64 0], .int .i32 word, M, .int .i64 from_] w fun e w' => e = .returned (.agg #[.int .i64 0, .int .i64 0, .int .u32 0]) ∧ CW w g (cells.set 2 (.int .i32 n)) w' :=
  by obtain ⟨x, hx⟩ := hr.1 2 (by omega); exact do_set10 38 0 n word from_ 2 0 M w g cells hT htg hB n0 (by kernel_rfl) (by kernel_rfl) (by omega) x hx
theorem op_li6 (n : Int) (w : World) : Calls Tryd.prog 27 #[.string ⟨#[108, 105]⟩, .int .i64 6, .int .i64 0, .int .i32 n] w fun e w' => e = .returned (.agg #[.int .i64 38, .int .i64 6, .int .i64 0, .int .i32 n, .int .i64 0]) ∧ Below w.heap.size w w' := by
  have h := op_any ⟨#[108, 105]⟩ 6 0 n w
  rwa [show findR (ByteArray.toList ⟨#[108, 105]⟩) = 38 from by kernel_rfl] at h
theorem o_li6 (word from_ : Int) (M : Value) (n : Int) (w : World) (g : Nat) (cells : List Value) (hT : TabIs 0 w) (htg : 0 ≠ g) (hB : Blk w g 119 cells) (n0 : -2147483648 ≤ n ∧ n ≤ 2147483647) (hr : RG cells) :
    Calls Tryd.prog 26 #[.pointer (some ⟨g, 0, none⟩), .agg #[.int .i64 38, .int .i64 6, .int .i64 0, .int .i32 n, .int .i64 0], .int .i32 word, M, .int .i64 from_] w fun e w' => e = .returned (.agg #[.int .i64 0, .int .i64 0, .int .u32 0]) ∧ CW w g (cells.set 6 (.int .i32 n)) w' :=
  by obtain ⟨x, hx⟩ := hr.1 6 (by omega); exact do_set10 38 0 n word from_ 6 0 M w g cells hT htg hB n0 (by kernel_rfl) (by kernel_rfl) (by omega) x hx
theorem op_li7 (n : Int) (w : World) : Calls Tryd.prog 27 #[.string ⟨#[108, 105]⟩, .int .i64 7, .int .i64 0, .int .i32 n] w fun e w' => e = .returned (.agg #[.int .i64 38, .int .i64 7, .int .i64 0, .int .i32 n, .int .i64 0]) ∧ Below w.heap.size w w' := by
  have h := op_any ⟨#[108, 105]⟩ 7 0 n w
  rwa [show findR (ByteArray.toList ⟨#[108, 105]⟩) = 38 from by kernel_rfl] at h
theorem o_li7 (word from_ : Int) (M : Value) (n : Int) (w : World) (g : Nat) (cells : List Value) (hT : TabIs 0 w) (htg : 0 ≠ g) (hB : Blk w g 119 cells) (n0 : -2147483648 ≤ n ∧ n ≤ 2147483647) (hr : RG cells) :
    Calls Tryd.prog 26 #[.pointer (some ⟨g, 0, none⟩), .agg #[.int .i64 38, .int .i64 7, .int .i64 0, .int .i32 n, .int .i64 0], .int .i32 word, M, .int .i64 from_] w fun e w' => e = .returned (.agg #[.int .i64 0, .int .i64 0, .int .u32 0]) ∧ CW w g (cells.set 7 (.int .i32 n)) w' :=
  by obtain ⟨x, hx⟩ := hr.1 7 (by omega); exact do_set10 38 0 n word from_ 7 0 M w g cells hT htg hB n0 (by kernel_rfl) (by kernel_rfl) (by omega) x hx
theorem op_lis1_7  (w : World) : Calls Tryd.prog 27 #[.string ⟨#[108, 105, 115]⟩, .int .i64 1, .int .i64 0, .int .i32 7] w fun e w' => e = .returned (.agg #[.int .i64 36, .int .i64 1, .int .i64 0, .int .i32 7, .int .i64 0]) ∧ Below w.heap.size w w' := by
  have h := op_any ⟨#[108, 105, 115]⟩ 1 0 7 w
  rwa [show findR (ByteArray.toList ⟨#[108, 105, 115]⟩) = 36 from by kernel_rfl] at h
theorem o_lis1_7 (word from_ : Int) (M : Value)  (w : World) (g : Nat) (cells : List Value) (hT : TabIs 0 w) (htg : 0 ≠ g) (hB : Blk w g 119 cells) (hr : RG cells) :
    Calls Tryd.prog 26 #[.pointer (some ⟨g, 0, none⟩), .agg #[.int .i64 36, .int .i64 1, .int .i64 0, .int .i32 7, .int .i64 0], .int .i32 word, M, .int .i64 from_] w fun e w' => e = .returned (.agg #[.int .i64 0, .int .i64 0, .int .u32 0]) ∧ CW w g (cells.set 1 (.int .i32 7)) w' :=
  by obtain ⟨x, hx⟩ := hr.1 1 (by omega); exact do_set8 36 0 7 word from_ 1 0 M w g cells hT htg hB (by omega) (by kernel_rfl) (by kernel_rfl) (by omega) x hx
theorem op_lis2_m2  (w : World) : Calls Tryd.prog 27 #[.string ⟨#[108, 105, 115]⟩, .int .i64 2, .int .i64 0, .int .i32 (-2)] w fun e w' => e = .returned (.agg #[.int .i64 36, .int .i64 2, .int .i64 0, .int .i32 (-2), .int .i64 0]) ∧ Below w.heap.size w w' := by
  have h := op_any ⟨#[108, 105, 115]⟩ 2 0 (-2) w
  rwa [show findR (ByteArray.toList ⟨#[108, 105, 115]⟩) = 36 from by kernel_rfl] at h
theorem o_lis2_m2 (word from_ : Int) (M : Value)  (w : World) (g : Nat) (cells : List Value) (hT : TabIs 0 w) (htg : 0 ≠ g) (hB : Blk w g 119 cells) (hr : RG cells) :
    Calls Tryd.prog 26 #[.pointer (some ⟨g, 0, none⟩), .agg #[.int .i64 36, .int .i64 2, .int .i64 0, .int .i32 (-2), .int .i64 0], .int .i32 word, M, .int .i64 from_] w fun e w' => e = .returned (.agg #[.int .i64 0, .int .i64 0, .int .u32 0]) ∧ CW w g (cells.set 2 (.int .i32 (-2))) w' :=
  by obtain ⟨x, hx⟩ := hr.1 2 (by omega); exact do_set8 36 0 (-2) word from_ 2 0 M w g cells hT htg hB (by omega) (by kernel_rfl) (by kernel_rfl) (by omega) x hx
theorem op_lis1_3  (w : World) : Calls Tryd.prog 27 #[.string ⟨#[108, 105, 115]⟩, .int .i64 1, .int .i64 0, .int .i32 3] w fun e w' => e = .returned (.agg #[.int .i64 36, .int .i64 1, .int .i64 0, .int .i32 3, .int .i64 0]) ∧ Below w.heap.size w w' := by
  have h := op_any ⟨#[108, 105, 115]⟩ 1 0 3 w
  rwa [show findR (ByteArray.toList ⟨#[108, 105, 115]⟩) = 36 from by kernel_rfl] at h
theorem o_lis1_3 (word from_ : Int) (M : Value)  (w : World) (g : Nat) (cells : List Value) (hT : TabIs 0 w) (htg : 0 ≠ g) (hB : Blk w g 119 cells) (hr : RG cells) :
    Calls Tryd.prog 26 #[.pointer (some ⟨g, 0, none⟩), .agg #[.int .i64 36, .int .i64 1, .int .i64 0, .int .i32 3, .int .i64 0], .int .i32 word, M, .int .i64 from_] w fun e w' => e = .returned (.agg #[.int .i64 0, .int .i64 0, .int .u32 0]) ∧ CW w g (cells.set 1 (.int .i32 3)) w' :=
  by obtain ⟨x, hx⟩ := hr.1 1 (by omega); exact do_set8 36 0 3 word from_ 1 0 M w g cells hT htg hB (by omega) (by kernel_rfl) (by kernel_rfl) (by omega) x hx
theorem op_lis2_4  (w : World) : Calls Tryd.prog 27 #[.string ⟨#[108, 105, 115]⟩, .int .i64 2, .int .i64 0, .int .i32 4] w fun e w' => e = .returned (.agg #[.int .i64 36, .int .i64 2, .int .i64 0, .int .i32 4, .int .i64 0]) ∧ Below w.heap.size w w' := by
  have h := op_any ⟨#[108, 105, 115]⟩ 2 0 4 w
  rwa [show findR (ByteArray.toList ⟨#[108, 105, 115]⟩) = 36 from by kernel_rfl] at h
theorem o_lis2_4 (word from_ : Int) (M : Value)  (w : World) (g : Nat) (cells : List Value) (hT : TabIs 0 w) (htg : 0 ≠ g) (hB : Blk w g 119 cells) (hr : RG cells) :
    Calls Tryd.prog 26 #[.pointer (some ⟨g, 0, none⟩), .agg #[.int .i64 36, .int .i64 2, .int .i64 0, .int .i32 4, .int .i64 0], .int .i32 word, M, .int .i64 from_] w fun e w' => e = .returned (.agg #[.int .i64 0, .int .i64 0, .int .u32 0]) ∧ CW w g (cells.set 2 (.int .i32 4)) w' :=
  by obtain ⟨x, hx⟩ := hr.1 2 (by omega); exact do_set8 36 0 4 word from_ 2 0 M w g cells hT htg hB (by omega) (by kernel_rfl) (by kernel_rfl) (by omega) x hx
theorem op_zset  (w : World) : Calls Tryd.prog 27 #[.string ⟨#[122, 115, 101, 116]⟩, .int .i64 0, .int .i64 1, .int .i32 2] w fun e w' => e = .returned (.agg #[.int .i64 35, .int .i64 0, .int .i64 1, .int .i32 2, .int .i64 0]) ∧ Below w.heap.size w w' := by
  have h := op_any ⟨#[122, 115, 101, 116]⟩ 0 1 2 w
  rwa [show findR (ByteArray.toList ⟨#[122, 115, 101, 116]⟩) = 35 from by kernel_rfl] at h
theorem o_zset (word from_ : Int) (M : Value) (x y : Int) (w : World) (g : Nat) (cells : List Value) (hT : TabIs 0 w) (htg : 0 ≠ g) (hB : Blk w g 119 cells) (hx : cells[1]? = some (.int .i32 x)) (hy : cells[2]? = some (.int .i32 y)) (hr : RG cells) :
    Calls Tryd.prog 26 #[.pointer (some ⟨g, 0, none⟩), .agg #[.int .i64 35, .int .i64 0, .int .i64 1, .int .i32 2, .int .i64 0], .int .i32 word, M, .int .i64 from_] w fun e w' => e = .returned (.agg #[.int .i64 0, .int .i64 0, .int .u32 0]) ∧ CW w g (cells.set 8 (.complex .f64 (floatOfInt .f64 x) (floatOfInt .f64 y))) w' :=
  by obtain ⟨p, q, hz⟩ := hr.2 0 (by omega); exact do_cplx7 35 0 2 word from_ 0 1 M w g cells _ hT htg hB (by omega) (by kernel_rfl) (by kernel_rfl) (Lib.hid fun W hT hB => cx_zset 35 2 0 0 1 2 x y W g cells hT htg hB (by omega) (by omega) (by omega) rfl hx hy _ hz (by kernel_rfl))
theorem op_zmul  (w : World) : Calls Tryd.prog 27 #[.string ⟨#[122, 109, 117, 108]⟩, .int .i64 0, .int .i64 0, .int .i32 0] w fun e w' => e = .returned (.agg #[.int .i64 32, .int .i64 0, .int .i64 0, .int .i32 0, .int .i64 0]) ∧ Below w.heap.size w w' := by
  have h := op_any ⟨#[122, 109, 117, 108]⟩ 0 0 0 w
  rwa [show findR (ByteArray.toList ⟨#[122, 109, 117, 108]⟩) = 32 from by kernel_rfl] at h
theorem o_zmul (word from_ : Int) (M : Value) (p q ps qt pt qs re im : Nat) (w : World) (g : Nat) (cells : List Value) (hT : TabIs 0 w) (htg : 0 ≠ g) (hB : Blk w g 119 cells) (hz : cells[8]? = some (.complex .f64 p q)) (h1 : ∀ w, (binOp BinOp.mul 146 (.float .f64 p) (.float .f64 p)).run Tryd.prog w = .ok (.float .f64 ps) w) (h2 : ∀ w, (binOp BinOp.mul 146 (.float .f64 q) (.float .f64 q)).run Tryd.prog w = .ok (.float .f64 qt) w) (h3 : ∀ w, (binOp BinOp.sub 146 (.float .f64 ps) (.float .f64 qt)).run Tryd.prog w = .ok (.float .f64 re) w) (h4 : ∀ w, (binOp BinOp.mul 146 (.float .f64 p) (.float .f64 q)).run Tryd.prog w = .ok (.float .f64 pt) w) (h5 : ∀ w, (binOp BinOp.mul 146 (.float .f64 q) (.float .f64 p)).run Tryd.prog w = .ok (.float .f64 qs) w) (h6 : ∀ w, (binOp BinOp.add 146 (.float .f64 pt) (.float .f64 qs)).run Tryd.prog w = .ok (.float .f64 im) w) :
    Calls Tryd.prog 26 #[.pointer (some ⟨g, 0, none⟩), .agg #[.int .i64 32, .int .i64 0, .int .i64 0, .int .i32 0, .int .i64 0], .int .i32 word, M, .int .i64 from_] w fun e w' => e = .returned (.agg #[.int .i64 0, .int .i64 0, .int .u32 0]) ∧ CW w g (cells.set 8 (.complex .f64 re im)) w' :=
  do_cplx5 32 0 0 word from_ 0 0 M w g cells _ hT htg hB (by omega) (by kernel_rfl) (by kernel_rfl) (Lib.hid fun W hT hB => cx_zmul 32 0 0 0 0 p q p q ps qt pt qs re im W g cells hT htg hB (by omega) (by omega) hz hz h1 h2 h3 h4 h5 h6 (by kernel_rfl))
theorem op_zre  (w : World) : Calls Tryd.prog 27 #[.string ⟨#[122, 114, 101]⟩, .int .i64 3, .int .i64 0, .int .i32 0] w fun e w' => e = .returned (.agg #[.int .i64 33, .int .i64 3, .int .i64 0, .int .i32 0, .int .i64 0]) ∧ Below w.heap.size w w' := by
  have h := op_any ⟨#[122, 114, 101]⟩ 3 0 0 w
  rwa [show findR (ByteArray.toList ⟨#[122, 114, 101]⟩) = 33 from by kernel_rfl] at h
theorem o_zre (word from_ : Int) (M : Value) (p q y : Nat) (m : Int) (w : World) (g : Nat) (cells : List Value) (hT : TabIs 0 w) (htg : 0 ≠ g) (hB : Blk w g 119 cells) (hz : cells[8]? = some (.complex .f64 p q)) (hr : RG cells)
    (hge : (FloatKind.f64.format.order p 13970166044103278592 == some .gt || FloatKind.f64.format.order p 13970166044103278592 == some .eq) = true)
    (hle : (FloatKind.f64.format.order p 4746794007244308480 == some .lt || FloatKind.f64.format.order p 4746794007244308480 == some .eq) = true)
    (hne : (FloatKind.f64.format.order p y != some .eq) = false) (hcv : ∀ w, (convert 146 21 (.float .f64 p)).run Tryd.prog w = .ok (.int .i32 m) w)
    (Htr : Hid (∀ W, Calls Tryd.prog 85 #[.float .f64 p] W fun e w' => e = .returned (.float .f64 y) ∧ W = w')) :
    Calls Tryd.prog 26 #[.pointer (some ⟨g, 0, none⟩), .agg #[.int .i64 33, .int .i64 3, .int .i64 0, .int .i32 0, .int .i64 0], .int .i32 word, M, .int .i64 from_] w fun e w' => e = .returned (.agg #[.int .i64 0, .int .i64 0, .int .u32 0]) ∧ CW w g (cells.set 3 (.int .i32 m)) w' :=
  by obtain ⟨x, hx⟩ := hr.1 3 (by omega); exact do_part 33 0 0 word from_ 3 0 M 0 0 0 w g cells _ hT htg hB (by omega) (by kernel_rfl) (by kernel_rfl) (Lib.hid fun W hT hB => pt_zre 33 0 0 3 0 p q y m W g cells hT htg hB (by omega) (by omega) hz _ hx hge hle hne hcv Htr (by kernel_rfl))
end Go.Proofs.YthcjnkakfpmpbaaDoor
