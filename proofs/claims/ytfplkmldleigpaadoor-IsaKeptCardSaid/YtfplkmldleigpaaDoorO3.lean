/- An instruction, and a list of instructions, among the arguments. No condition. -/
import Derived.Test.YtfplkmldleigpaaDoorO2
import Derived.Deep.Slices
import Derived.Deep.Fields
namespace Go.Proofs.YtfplkmldleigpaaDoor
open Go.ChangeShapes Go.WideShapes Go.ChangeAt Go.RowKit Go.Joins
set_option linter.unusedVariables false

/-- an instruction: operation, two registers, number, form -/
structure Ins where
  op : Int
  a : Int
  b : Int
  n : Int
  f : Int
@[reducible] def Ins.val (i : Ins) : Value := .agg #[.int .i64 i.op, .int .i64 i.a, .int .i64 i.b, .int .i32 i.n, .int .i64 i.f]
def Ins.cells (i : Ins) : List Value := [.int .i64 i.op, .int .i64 i.a, .int .i64 i.b, .int .i32 i.n, .int .i64 i.f]
def In64 (x : Int) : Prop := -9223372036854775808 ≤ x ∧ x ≤ 9223372036854775807
def Ins.Ok (i : Ins) : Prop := In64 i.op ∧ In64 i.a ∧ In64 i.b ∧ (-2147483648 ≤ i.n ∧ i.n ≤ 2147483647) ∧ In64 i.f

section
variable {H : Type} {enc : TypeId × Value → H} {W : World}
theorem cellsI32 : Tryd.prog.cellsOf 21 = 1 := by kernel_rfl
theorem cellsInst : Tryd.prog.cellsOf 35 = 5 := by kernel_rfl

set_option maxRecDepth 20000 in
/-- an instruction's cells, by its reading -/
theorem cells_of_inst {base fuel : Nat} {sp : Nat → Bool} {held : Bool} {cs : List Value} {y : DataW H × List MemPlace} (h : DataW.trod enc Tryd.prog W base sp held fuel 35 cs = some y) :
    ∃ i : Ins, i.Ok ∧ cs = i.cells ∧ y.1 = .agg [.lit (.int .i64 i.op), .lit (.int .i64 i.a), .lit (.int .i64 i.b), .lit (.int .i32 i.n), .lit (.int .i64 i.f)] := by
  obtain ⟨xs, n, _, hx, hlen, hxl, hg⟩ := DataW.trod_struct Tryd.underlying35 h
  rw [cellsInst] at hlen
  match cs, hlen with
  | [c0, c1, c2, c3, c4], _ =>
    match xs, hxl with
    | [y0, y1, y2, y3, y4], _ =>
      have g0 := hg 0 _ rfl
      have g1 := hg 1 _ rfl
      have g2 := hg 2 _ rfl
      have g3 := hg 3 _ rfl
      have g4 := hg 4 _ rfl
      simp [cellsI32, cellsInt] at g0 g1 g2 g3 g4
      obtain ⟨v0, e0, r0, w0⟩ := DataW.trod_int Tryd.underlying3 g0
      obtain ⟨v1, e1, r1, w1⟩ := DataW.trod_int Tryd.underlying3 g1
      obtain ⟨v2, e2, r2, w2⟩ := DataW.trod_int Tryd.underlying3 g2
      obtain ⟨v3, e3, r3, w3⟩ := DataW.trod_int Tryd.underlying21 g3
      obtain ⟨v4, e4, r4, w4⟩ := DataW.trod_int Tryd.underlying3 g4
      simp at e0 e1 e2 e3 e4
      subst e0 e1 e2 e3 e4 r0 r1 r2 r3 r4
      exact ⟨⟨v0, v1, v2, v3, v4⟩, ⟨bounds_i64 w0, bounds_i64 w1, bounds_i64 w2, bounds_i32 w3, bounds_i64 w4⟩, rfl, by rw [hx]; rfl⟩

set_option maxRecDepth 20000 in
theorem open_inst {r : Reach} {b0 : Nat} {v : Value} {d : DataW H} {p : List MemPlace} (hv : Value.okWide Tryd.prog W r b0 35 v) (h : DataW.Trod enc Tryd.prog W 0 (fun _ => true) true 35 v d p) :
    ∃ i : Ins, i.Ok ∧ v = i.val := by
  obtain ⟨cs, rfl, hsz⟩ := okWide_struct Tryd.underlying35 hv
  obtain ⟨fuel, hf⟩ := h
  obtain ⟨i, hi, hc, _⟩ := cells_of_inst hf
  refine ⟨i, hi, ?_⟩
  simp only [Value.cells] at hc
  have : cs = i.cells.toArray := by rw [← hc]
  rw [this]
  rfl
end
end Go.Proofs.YtfplkmldleigpaaDoor
