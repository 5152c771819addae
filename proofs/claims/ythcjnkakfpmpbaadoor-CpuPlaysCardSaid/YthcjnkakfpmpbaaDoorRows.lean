/-
  NARROWER THAN 'FOR EVERY INPUT', by the rows' own cells (each row's printed sentence says how): DecodeDecodes: laid · DecodeNumbers: laid · DecodeAll: laid · DecodeBack: laid · DecodeRow: laid · CpuRing: laid · CpuDivides: laid · CpuGauss: laid · CpuKept: laid · CpuNumbers: laid · CpuFull: laid · CpuPlays: laid.
  DERIVED. THE GIVEN ROWS OF THIS SEAT. 12 by the template 'for every input the law returns true; each argument reads behind the call as it read before'; 0 by the template 'total and deterministic' (their statements: YthcjnkakfpmpbaaDoorTotals.lean).
  GIVEN WITH THE SEED: the statements are not yours to turn. If you find one false, say at which input.
  Laid BY PROGRAM, IN A SANDBOX (cutbox-rows.mjs): the forced cells as the released guide's own fill.sh prints them over the translation ed26dd67475597f8… (all of the seat's roots in one cut). By AI agents, Wed Nov 11 2026. No macro, syntax, notation, axiom, sorry.
-/
import Derived.Test.YthcjnkakfpmpbaaDoorChecked
import GoSem.Claim
import GoSem.ClaimJoined
import GoSem.ClaimMapViews
import Derived.JoinedTies
import Derived.KernelRfl
namespace Go.Proofs.YthcjnkakfpmpbaaDoor
/- THE CELL 'sum', in the pinned program and in every row, IS THE sha256 OF THE DUMP (.gsa) THAT YthcjnkakfpmpbaaDoorProg.lean LOADS. Nothing in Lean hashes anything: it is a label: what it is worth is what the hold of that sum in a sandbox is worth. -/
noncomputable def Tryd.pinned : Pinned := { name := "ythcjnkakfpmpbaadoor", sum := "ed26dd67475597f87e973c19aea4205f02225c2e37b5b67e3c10937d1cdccb3b", checked := Tryd.checked }
namespace Rows
def none {H : Type} : Left H := { results := [], args := [] }

/- WHAT THE LISTED PACKAGE-LEVEL VARIABLES READ AS WHEN THE CALL BEGINS. Each datum BY PROGRAM (the guide's laid-datum.mjs) off the statement by which the dump's own 'gosem.cut.vars' lays the variable. In a bare row this is a premise. The card (YthcjnkakfpmpbaaDoorCards.lean) ties it to the program's text. -/
def laid_spandrel_isa_table {H : Type} : DataW H := .agg [.agg [.lit (.string [110, 111, 112]), .lit (.int .u8 0), .lit (.int .i64 1)], .agg [.lit (.string [104, 97, 108, 116]), .lit (.int .u8 1), .lit (.int .i64 1)], .agg [.lit (.string [114, 101, 116]), .lit (.int .u8 2), .lit (.int .i64 1)], .agg [.lit (.string [112, 114, 105, 110, 116]), .lit (.int .u8 3), .lit (.int .i64 2)], .agg [.lit (.string [105, 110]), .lit (.int .u8 4), .lit (.int .i64 2)], .agg [.lit (.string [112, 117, 115, 104]), .lit (.int .u8 5), .lit (.int .i64 2)], .agg [.lit (.string [112, 111, 112]), .lit (.int .u8 6), .lit (.int .i64 2)], .agg [.lit (.string [106, 114]), .lit (.int .u8 7), .lit (.int .i64 2)], .agg [.lit (.string [110, 101, 103]), .lit (.int .u8 8), .lit (.int .i64 2)], .agg [.lit (.string [110, 111, 116]), .lit (.int .u8 9), .lit (.int .i64 2)], .agg [.lit (.string [122, 116, 117, 114, 110]), .lit (.int .u8 10), .lit (.int .i64 3)], .agg [.lit (.string [122, 99, 111, 110, 106]), .lit (.int .u8 11), .lit (.int .i64 3)], .agg [.lit (.string [109, 111, 118]), .lit (.int .u8 16), .lit (.int .i64 4)], .agg [.lit (.string [97, 100, 100]), .lit (.int .u8 17), .lit (.int .i64 4)], .agg [.lit (.string [115, 117, 98]), .lit (.int .u8 18), .lit (.int .i64 4)], .agg [.lit (.string [109, 117, 108]), .lit (.int .u8 19), .lit (.int .i64 4)], .agg [.lit (.string [100, 105, 118]), .lit (.int .u8 20), .lit (.int .i64 4)], .agg [.lit (.string [97, 110, 100]), .lit (.int .u8 21), .lit (.int .i64 4)], .agg [.lit (.string [111, 114]), .lit (.int .u8 22), .lit (.int .i64 4)], .agg [.lit (.string [120, 111, 114]), .lit (.int .u8 23), .lit (.int .i64 4)], .agg [.lit (.string [115, 104, 108]), .lit (.int .u8 24), .lit (.int .i64 4)], .agg [.lit (.string [115, 104, 114]), .lit (.int .u8 25), .lit (.int .i64 4)], .agg [.lit (.string [108, 116]), .lit (.int .u8 26), .lit (.int .i64 4)], .agg [.lit (.string [101, 113]), .lit (.int .u8 27), .lit (.int .i64 4)], .agg [.lit (.string [108, 100, 98]), .lit (.int .u8 28), .lit (.int .i64 4)], .agg [.lit (.string [108, 100, 119]), .lit (.int .u8 29), .lit (.int .i64 4)], .agg [.lit (.string [108, 100, 109]), .lit (.int .u8 30), .lit (.int .i64 4)], .agg [.lit (.string [115, 116, 109]), .lit (.int .u8 31), .lit (.int .i64 4)], .agg [.lit (.string [122, 109, 111, 118]), .lit (.int .u8 32), .lit (.int .i64 5)], .agg [.lit (.string [122, 97, 100, 100]), .lit (.int .u8 33), .lit (.int .i64 5)], .agg [.lit (.string [122, 115, 117, 98]), .lit (.int .u8 34), .lit (.int .i64 5)], .agg [.lit (.string [122, 109, 117, 108]), .lit (.int .u8 35), .lit (.int .i64 5)], .agg [.lit (.string [122, 114, 101]), .lit (.int .u8 36), .lit (.int .i64 6)], .agg [.lit (.string [122, 105, 109]), .lit (.int .u8 37), .lit (.int .i64 6)], .agg [.lit (.string [122, 115, 101, 116]), .lit (.int .u8 38), .lit (.int .i64 7)], .agg [.lit (.string [108, 105, 115]), .lit (.int .u8 48), .lit (.int .i64 8)], .agg [.lit (.string [116, 114, 97, 112]), .lit (.int .u8 49), .lit (.int .i64 9)], .agg [.lit (.string [108, 105]), .lit (.int .u8 50), .lit (.int .i64 10)], .agg [.lit (.string [108, 100, 112]), .lit (.int .u8 51), .lit (.int .i64 11)], .agg [.lit (.string [106, 109, 112]), .lit (.int .u8 64), .lit (.int .i64 12)], .agg [.lit (.string [99, 97, 108, 108]), .lit (.int .u8 67), .lit (.int .i64 12)], .agg [.lit (.string [106, 122]), .lit (.int .u8 70), .lit (.int .i64 13)], .agg [.lit (.string [106, 110, 122]), .lit (.int .u8 73), .lit (.int .i64 13)]]

/-- 'spandrellaw7.DecodeDecodes': WHATEVER THE INPUT: true; the input reads as it did. -/
def decodeDecodesSpec : ChangeSpec := { name := "decodeDecodes", fn := fun _ => fun
  | [d1, d2] => { results := [.lit (.bool true)], args := [d1, d2] }
  | _ => none }
def decodeDecodesRow : OpenClaim := { program := "ythcjnkakfpmpbaadoor", sum := "ed26dd67475597f87e973c19aea4205f02225c2e37b5b67e3c10937d1cdccb3b", func := "spandrel/spandrellaw7.DecodeDecodes", spec := "decodeDecodes", named := ["spandrel/isa.table"], apart := false, laid := [("spandrel/isa.table", laid_spandrel_isa_table)] }
def DecodeDecodesSaid : Prop := decodeDecodesRow.holds Tryd.pinned (OpenSpec.ofChange decodeDecodesSpec)

/-- ITS FALSE NEIGHBOUR: 'it returns false'. Refute it at one input. -/
def decodeDecodesWrong : ChangeSpec := { name := "decodeDecodes", fn := fun _ => fun
  | [d1, d2] => { results := [.lit (.bool false)], args := [d1, d2] }
  | _ => none }
def DecodeDecodesWrongFalsely : Prop := decodeDecodesRow.holds Tryd.pinned (OpenSpec.ofChange decodeDecodesWrong)

/-- 'spandrellaw7.DecodeNumbers': WHATEVER THE INPUT: true; the input reads as it did. -/
def decodeNumbersSpec : ChangeSpec := { name := "decodeNumbers", fn := fun _ => fun
  | [] => { results := [.lit (.bool true)], args := [] }
  | _ => none }
def decodeNumbersRow : OpenClaim := { program := "ythcjnkakfpmpbaadoor", sum := "ed26dd67475597f87e973c19aea4205f02225c2e37b5b67e3c10937d1cdccb3b", func := "spandrel/spandrellaw7.DecodeNumbers", spec := "decodeNumbers", unfollowed := true, recurses := true, named := ["spandrel/isa.table"], apart := false, laid := [("spandrel/isa.table", laid_spandrel_isa_table)] }
def DecodeNumbersSaid : Prop := decodeNumbersRow.holds Tryd.pinned (OpenSpec.ofChange decodeNumbersSpec)

/-- ITS FALSE NEIGHBOUR: 'it returns false'. Refute it at one input. -/
def decodeNumbersWrong : ChangeSpec := { name := "decodeNumbers", fn := fun _ => fun
  | [] => { results := [.lit (.bool false)], args := [] }
  | _ => none }
def DecodeNumbersWrongFalsely : Prop := decodeNumbersRow.holds Tryd.pinned (OpenSpec.ofChange decodeNumbersWrong)

/-- 'spandrellaw7.DecodeAll': WHATEVER THE INPUT: true; the input reads as it did. -/
def decodeAllSpec : ChangeSpec := { name := "decodeAll", fn := fun _ => fun
  | [d1, d2, d3] => { results := [.lit (.bool true)], args := [d1, d2, d3] }
  | _ => none }
def decodeAllRow : OpenClaim := { program := "ythcjnkakfpmpbaadoor", sum := "ed26dd67475597f87e973c19aea4205f02225c2e37b5b67e3c10937d1cdccb3b", func := "spandrel/spandrellaw7.DecodeAll", spec := "decodeAll", unfollowed := true, recurses := true, named := ["spandrel/isa.table"], apart := false, laid := [("spandrel/isa.table", laid_spandrel_isa_table)] }
def DecodeAllSaid : Prop := decodeAllRow.holds Tryd.pinned (OpenSpec.ofChange decodeAllSpec)

/-- ITS FALSE NEIGHBOUR: 'it returns false'. Refute it at one input. -/
def decodeAllWrong : ChangeSpec := { name := "decodeAll", fn := fun _ => fun
  | [d1, d2, d3] => { results := [.lit (.bool false)], args := [d1, d2, d3] }
  | _ => none }
def DecodeAllWrongFalsely : Prop := decodeAllRow.holds Tryd.pinned (OpenSpec.ofChange decodeAllWrong)

/-- 'spandrellaw7.DecodeBack': WHATEVER THE INPUT: true; the input reads as it did. -/
def decodeBackSpec : ChangeSpec := { name := "decodeBack", fn := fun _ => fun
  | [d1, d2, d3, d4] => { results := [.lit (.bool true)], args := [d1, d2, d3, d4] }
  | _ => none }
def decodeBackRow : OpenClaim := { program := "ythcjnkakfpmpbaadoor", sum := "ed26dd67475597f87e973c19aea4205f02225c2e37b5b67e3c10937d1cdccb3b", func := "spandrel/spandrellaw7.DecodeBack", spec := "decodeBack", named := ["spandrel/isa.table"], apart := false, laid := [("spandrel/isa.table", laid_spandrel_isa_table)] }
def DecodeBackSaid : Prop := decodeBackRow.holds Tryd.pinned (OpenSpec.ofChange decodeBackSpec)

/-- ITS FALSE NEIGHBOUR: 'it returns false'. Refute it at one input. -/
def decodeBackWrong : ChangeSpec := { name := "decodeBack", fn := fun _ => fun
  | [d1, d2, d3, d4] => { results := [.lit (.bool false)], args := [d1, d2, d3, d4] }
  | _ => none }
def DecodeBackWrongFalsely : Prop := decodeBackRow.holds Tryd.pinned (OpenSpec.ofChange decodeBackWrong)

/-- 'spandrellaw7.DecodeRow': WHATEVER THE INPUT: true; the input reads as it did. -/
def decodeRowSpec : ChangeSpec := { name := "decodeRow", fn := fun _ => fun
  | [d] => { results := [.lit (.bool true)], args := [d] }
  | _ => none }
def decodeRowRow : OpenClaim := { program := "ythcjnkakfpmpbaadoor", sum := "ed26dd67475597f87e973c19aea4205f02225c2e37b5b67e3c10937d1cdccb3b", func := "spandrel/spandrellaw7.DecodeRow", spec := "decodeRow", unfollowed := true, recurses := true, named := ["spandrel/isa.table"], apart := false, laid := [("spandrel/isa.table", laid_spandrel_isa_table)] }
def DecodeRowSaid : Prop := decodeRowRow.holds Tryd.pinned (OpenSpec.ofChange decodeRowSpec)

/-- ITS FALSE NEIGHBOUR: 'it returns false'. Refute it at one input. -/
def decodeRowWrong : ChangeSpec := { name := "decodeRow", fn := fun _ => fun
  | [d] => { results := [.lit (.bool false)], args := [d] }
  | _ => none }
def DecodeRowWrongFalsely : Prop := decodeRowRow.holds Tryd.pinned (OpenSpec.ofChange decodeRowWrong)

/-- 'spandrellaw18.CpuRing': WHATEVER THE INPUT: true; the input reads as it did. -/
def cpuRingSpec : ChangeSpec := { name := "cpuRing", fn := fun _ => fun
  | [d1, d2] => { results := [.lit (.bool true)], args := [d1, d2] }
  | _ => none }
def cpuRingRow : OpenClaim := { program := "ythcjnkakfpmpbaadoor", sum := "ed26dd67475597f87e973c19aea4205f02225c2e37b5b67e3c10937d1cdccb3b", func := "spandrel/spandrellaw18.CpuRing", spec := "cpuRing", inPlace := ["math.archTrunc", "math.Float64bits", "math.Float64frombits"], named := ["spandrel/isa.table"], apart := false, laid := [("spandrel/isa.table", laid_spandrel_isa_table)] }
def CpuRingSaid : Prop := cpuRingRow.holds Tryd.pinned (OpenSpec.ofChange cpuRingSpec)

/-- ITS FALSE NEIGHBOUR: 'it returns false'. Refute it at one input. -/
def cpuRingWrong : ChangeSpec := { name := "cpuRing", fn := fun _ => fun
  | [d1, d2] => { results := [.lit (.bool false)], args := [d1, d2] }
  | _ => none }
def CpuRingWrongFalsely : Prop := cpuRingRow.holds Tryd.pinned (OpenSpec.ofChange cpuRingWrong)

/-- 'spandrellaw18.CpuDivides': WHATEVER THE INPUT: true; the input reads as it did. -/
def cpuDividesSpec : ChangeSpec := { name := "cpuDivides", fn := fun _ => fun
  | [d1, d2] => { results := [.lit (.bool true)], args := [d1, d2] }
  | _ => none }
def cpuDividesRow : OpenClaim := { program := "ythcjnkakfpmpbaadoor", sum := "ed26dd67475597f87e973c19aea4205f02225c2e37b5b67e3c10937d1cdccb3b", func := "spandrel/spandrellaw18.CpuDivides", spec := "cpuDivides", inPlace := ["math.archTrunc", "math.Float64bits", "math.Float64frombits"], named := ["spandrel/isa.table"], apart := false, laid := [("spandrel/isa.table", laid_spandrel_isa_table)] }
def CpuDividesSaid : Prop := cpuDividesRow.holds Tryd.pinned (OpenSpec.ofChange cpuDividesSpec)

/-- ITS FALSE NEIGHBOUR: 'it returns false'. Refute it at one input. -/
def cpuDividesWrong : ChangeSpec := { name := "cpuDivides", fn := fun _ => fun
  | [d1, d2] => { results := [.lit (.bool false)], args := [d1, d2] }
  | _ => none }
def CpuDividesWrongFalsely : Prop := cpuDividesRow.holds Tryd.pinned (OpenSpec.ofChange cpuDividesWrong)

/-- 'spandrellaw18.CpuGauss': WHATEVER THE INPUT: true; the input reads as it did. -/
def cpuGaussSpec : ChangeSpec := { name := "cpuGauss", fn := fun _ => fun
  | [d1, d2, d3, d4] => { results := [.lit (.bool true)], args := [d1, d2, d3, d4] }
  | _ => none }
def cpuGaussRow : OpenClaim := { program := "ythcjnkakfpmpbaadoor", sum := "ed26dd67475597f87e973c19aea4205f02225c2e37b5b67e3c10937d1cdccb3b", func := "spandrel/spandrellaw18.CpuGauss", spec := "cpuGauss", inPlace := ["math.archTrunc", "math.Float64bits", "math.Float64frombits"], named := ["spandrel/isa.table"], apart := false, laid := [("spandrel/isa.table", laid_spandrel_isa_table)] }
def CpuGaussSaid : Prop := cpuGaussRow.holds Tryd.pinned (OpenSpec.ofChange cpuGaussSpec)

/-- ITS FALSE NEIGHBOUR: 'it returns false'. Refute it at one input. -/
def cpuGaussWrong : ChangeSpec := { name := "cpuGauss", fn := fun _ => fun
  | [d1, d2, d3, d4] => { results := [.lit (.bool false)], args := [d1, d2, d3, d4] }
  | _ => none }
def CpuGaussWrongFalsely : Prop := cpuGaussRow.holds Tryd.pinned (OpenSpec.ofChange cpuGaussWrong)

/-- 'spandrellaw18.CpuKept': WHATEVER THE INPUT: true; the input reads as it did. -/
def cpuKeptSpec : ChangeSpec := { name := "cpuKept", fn := fun _ => fun
  | [d] => { results := [.lit (.bool true)], args := [d] }
  | _ => none }
def cpuKeptRow : OpenClaim := { program := "ythcjnkakfpmpbaadoor", sum := "ed26dd67475597f87e973c19aea4205f02225c2e37b5b67e3c10937d1cdccb3b", func := "spandrel/spandrellaw18.CpuKept", spec := "cpuKept", inPlace := ["math.archTrunc", "math.Float64bits", "math.Float64frombits"], unfollowed := true, recurses := true, named := ["spandrel/isa.table"], apart := false, laid := [("spandrel/isa.table", laid_spandrel_isa_table)] }
def CpuKeptSaid : Prop := cpuKeptRow.holds Tryd.pinned (OpenSpec.ofChange cpuKeptSpec)

/-- ITS FALSE NEIGHBOUR: 'it returns false'. Refute it at one input. -/
def cpuKeptWrong : ChangeSpec := { name := "cpuKept", fn := fun _ => fun
  | [d] => { results := [.lit (.bool false)], args := [d] }
  | _ => none }
def CpuKeptWrongFalsely : Prop := cpuKeptRow.holds Tryd.pinned (OpenSpec.ofChange cpuKeptWrong)

/-- 'spandrellaw18.CpuNumbers': WHATEVER THE INPUT: true; the input reads as it did. -/
def cpuNumbersSpec : ChangeSpec := { name := "cpuNumbers", fn := fun _ => fun
  | [] => { results := [.lit (.bool true)], args := [] }
  | _ => none }
def cpuNumbersRow : OpenClaim := { program := "ythcjnkakfpmpbaadoor", sum := "ed26dd67475597f87e973c19aea4205f02225c2e37b5b67e3c10937d1cdccb3b", func := "spandrel/spandrellaw18.CpuNumbers", spec := "cpuNumbers", inPlace := ["math.archTrunc", "math.Float64bits", "math.Float64frombits"], named := ["spandrel/isa.table"], apart := false, laid := [("spandrel/isa.table", laid_spandrel_isa_table)] }
def CpuNumbersSaid : Prop := cpuNumbersRow.holds Tryd.pinned (OpenSpec.ofChange cpuNumbersSpec)

/-- ITS FALSE NEIGHBOUR: 'it returns false'. Refute it at one input. -/
def cpuNumbersWrong : ChangeSpec := { name := "cpuNumbers", fn := fun _ => fun
  | [] => { results := [.lit (.bool false)], args := [] }
  | _ => none }
def CpuNumbersWrongFalsely : Prop := cpuNumbersRow.holds Tryd.pinned (OpenSpec.ofChange cpuNumbersWrong)

/-- 'spandrellaw18.CpuFull': WHATEVER THE INPUT: true; the input reads as it did. -/
def cpuFullSpec : ChangeSpec := { name := "cpuFull", fn := fun _ => fun
  | [] => { results := [.lit (.bool true)], args := [] }
  | _ => none }
def cpuFullRow : OpenClaim := { program := "ythcjnkakfpmpbaadoor", sum := "ed26dd67475597f87e973c19aea4205f02225c2e37b5b67e3c10937d1cdccb3b", func := "spandrel/spandrellaw18.CpuFull", spec := "cpuFull", inPlace := ["math.archTrunc", "math.Float64bits", "math.Float64frombits"], named := ["spandrel/isa.table"], apart := false, laid := [("spandrel/isa.table", laid_spandrel_isa_table)] }
def CpuFullSaid : Prop := cpuFullRow.holds Tryd.pinned (OpenSpec.ofChange cpuFullSpec)

/-- ITS FALSE NEIGHBOUR: 'it returns false'. Refute it at one input. -/
def cpuFullWrong : ChangeSpec := { name := "cpuFull", fn := fun _ => fun
  | [] => { results := [.lit (.bool false)], args := [] }
  | _ => none }
def CpuFullWrongFalsely : Prop := cpuFullRow.holds Tryd.pinned (OpenSpec.ofChange cpuFullWrong)

/-- 'spandrellaw18.CpuPlays': WHATEVER THE INPUT: true; the input reads as it did. -/
def cpuPlaysSpec : ChangeSpec := { name := "cpuPlays", fn := fun _ => fun
  | [d1, d2, d3, d4] => { results := [.lit (.bool true)], args := [d1, d2, d3, d4] }
  | _ => none }
def cpuPlaysRow : OpenClaim := { program := "ythcjnkakfpmpbaadoor", sum := "ed26dd67475597f87e973c19aea4205f02225c2e37b5b67e3c10937d1cdccb3b", func := "spandrel/spandrellaw18.CpuPlays", spec := "cpuPlays", inPlace := ["math.archTrunc", "math.Float64bits", "math.Float64frombits"], named := ["spandrel/isa.table"], apart := false, laid := [("spandrel/isa.table", laid_spandrel_isa_table)] }
def CpuPlaysSaid : Prop := cpuPlaysRow.holds Tryd.pinned (OpenSpec.ofChange cpuPlaysSpec)

/-- ITS FALSE NEIGHBOUR: 'it returns false'. Refute it at one input. -/
def cpuPlaysWrong : ChangeSpec := { name := "cpuPlays", fn := fun _ => fun
  | [d1, d2, d3, d4] => { results := [.lit (.bool false)], args := [d1, d2, d3, d4] }
  | _ => none }
def CpuPlaysWrongFalsely : Prop := cpuPlaysRow.holds Tryd.pinned (OpenSpec.ofChange cpuPlaysWrong)

/- THE SECOND FORM. 'bulk': how many values and letters a reading holds, each counted each time it is reached (what is shared counts as often as it is met; a slice's spare places count too). A statement '..UptoSaid' is the law's where the arguments, and the package variables that the reading takes, are together of bulk at most 1048576: NARROWER than '..Said'. Prove '..Said' where nothing that the law and all that it calls make is longer than what came in: it says more and counts as full. Else prove '..UptoSaid'. A law counts once. -/
mutual
def uptoBulk {H : Type} : DataW H → Nat
  | .lit (.string bytes) => bytes.length + 1
  | .lit _ => 1
  | .nil => 1
  | .ptr d => uptoBulk d + 1
  | .slice elems spare => uptoBulkAll elems + uptoBulkAll spare + 1
  | .agg parts => uptoBulkAll parts + 1
  | .iface _ d => uptoBulk d + 1
  | .map entries => uptoBulkEntries entries + 1
  | .held _ => 1
def uptoBulkAll {H : Type} : List (DataW H) → Nat
  | [] => 0
  | d :: r => uptoBulk d + uptoBulkAll r
def uptoBulkEntries {H : Type} : List (Lit × DataW H) → Nat
  | [] => 0
  | x :: r => uptoBulkEntry x + uptoBulkEntries r
def uptoBulkEntry {H : Type} : Lit × DataW H → Nat
  | (.string bytes, d) => bytes.length + uptoBulk d + 1
  | (_, d) => uptoBulk d + 1
 end
def uptoSmall : (H : Type) → List (DataW H) → Bool := fun _ ds => decide (uptoBulkAll ds ≤ 1048576)
def OpenSpec.upto (s : _root_.Go.ChangeSpec) : _root_.Go.OpenSpec := { _root_.Go.OpenSpec.ofChange s with cond := some uptoSmall }

/-- 'spandrellaw7.DecodeDecodes', WHERE WHAT IT READS IS OF BULK AT MOST 1048576: true; the input reads as it did. -/
def decodeDecodesUptoRow : OpenClaim := { program := "ythcjnkakfpmpbaadoor", sum := "ed26dd67475597f87e973c19aea4205f02225c2e37b5b67e3c10937d1cdccb3b", func := "spandrel/spandrellaw7.DecodeDecodes", spec := "decodeDecodes", named := ["spandrel/isa.table"], apart := false, laid := [("spandrel/isa.table", laid_spandrel_isa_table)], narrowed := true }
def DecodeDecodesUptoSaid : Prop := decodeDecodesUptoRow.holds Tryd.pinned (OpenSpec.upto decodeDecodesSpec)

/-- 'spandrellaw7.DecodeNumbers', WHERE WHAT IT READS IS OF BULK AT MOST 1048576: true; the input reads as it did. -/
def decodeNumbersUptoRow : OpenClaim := { program := "ythcjnkakfpmpbaadoor", sum := "ed26dd67475597f87e973c19aea4205f02225c2e37b5b67e3c10937d1cdccb3b", func := "spandrel/spandrellaw7.DecodeNumbers", spec := "decodeNumbers", unfollowed := true, recurses := true, named := ["spandrel/isa.table"], apart := false, laid := [("spandrel/isa.table", laid_spandrel_isa_table)], narrowed := true }
def DecodeNumbersUptoSaid : Prop := decodeNumbersUptoRow.holds Tryd.pinned (OpenSpec.upto decodeNumbersSpec)

/-- 'spandrellaw7.DecodeAll', WHERE WHAT IT READS IS OF BULK AT MOST 1048576: true; the input reads as it did. -/
def decodeAllUptoRow : OpenClaim := { program := "ythcjnkakfpmpbaadoor", sum := "ed26dd67475597f87e973c19aea4205f02225c2e37b5b67e3c10937d1cdccb3b", func := "spandrel/spandrellaw7.DecodeAll", spec := "decodeAll", unfollowed := true, recurses := true, named := ["spandrel/isa.table"], apart := false, laid := [("spandrel/isa.table", laid_spandrel_isa_table)], narrowed := true }
def DecodeAllUptoSaid : Prop := decodeAllUptoRow.holds Tryd.pinned (OpenSpec.upto decodeAllSpec)

/-- 'spandrellaw7.DecodeBack', WHERE WHAT IT READS IS OF BULK AT MOST 1048576: true; the input reads as it did. -/
def decodeBackUptoRow : OpenClaim := { program := "ythcjnkakfpmpbaadoor", sum := "ed26dd67475597f87e973c19aea4205f02225c2e37b5b67e3c10937d1cdccb3b", func := "spandrel/spandrellaw7.DecodeBack", spec := "decodeBack", named := ["spandrel/isa.table"], apart := false, laid := [("spandrel/isa.table", laid_spandrel_isa_table)], narrowed := true }
def DecodeBackUptoSaid : Prop := decodeBackUptoRow.holds Tryd.pinned (OpenSpec.upto decodeBackSpec)

/-- 'spandrellaw7.DecodeRow', WHERE WHAT IT READS IS OF BULK AT MOST 1048576: true; the input reads as it did. -/
def decodeRowUptoRow : OpenClaim := { program := "ythcjnkakfpmpbaadoor", sum := "ed26dd67475597f87e973c19aea4205f02225c2e37b5b67e3c10937d1cdccb3b", func := "spandrel/spandrellaw7.DecodeRow", spec := "decodeRow", unfollowed := true, recurses := true, named := ["spandrel/isa.table"], apart := false, laid := [("spandrel/isa.table", laid_spandrel_isa_table)], narrowed := true }
def DecodeRowUptoSaid : Prop := decodeRowUptoRow.holds Tryd.pinned (OpenSpec.upto decodeRowSpec)

/-- 'spandrellaw18.CpuRing', WHERE WHAT IT READS IS OF BULK AT MOST 1048576: true; the input reads as it did. -/
def cpuRingUptoRow : OpenClaim := { program := "ythcjnkakfpmpbaadoor", sum := "ed26dd67475597f87e973c19aea4205f02225c2e37b5b67e3c10937d1cdccb3b", func := "spandrel/spandrellaw18.CpuRing", spec := "cpuRing", inPlace := ["math.archTrunc", "math.Float64bits", "math.Float64frombits"], named := ["spandrel/isa.table"], apart := false, laid := [("spandrel/isa.table", laid_spandrel_isa_table)], narrowed := true }
def CpuRingUptoSaid : Prop := cpuRingUptoRow.holds Tryd.pinned (OpenSpec.upto cpuRingSpec)

/-- 'spandrellaw18.CpuDivides', WHERE WHAT IT READS IS OF BULK AT MOST 1048576: true; the input reads as it did. -/
def cpuDividesUptoRow : OpenClaim := { program := "ythcjnkakfpmpbaadoor", sum := "ed26dd67475597f87e973c19aea4205f02225c2e37b5b67e3c10937d1cdccb3b", func := "spandrel/spandrellaw18.CpuDivides", spec := "cpuDivides", inPlace := ["math.archTrunc", "math.Float64bits", "math.Float64frombits"], named := ["spandrel/isa.table"], apart := false, laid := [("spandrel/isa.table", laid_spandrel_isa_table)], narrowed := true }
def CpuDividesUptoSaid : Prop := cpuDividesUptoRow.holds Tryd.pinned (OpenSpec.upto cpuDividesSpec)

/-- 'spandrellaw18.CpuGauss', WHERE WHAT IT READS IS OF BULK AT MOST 1048576: true; the input reads as it did. -/
def cpuGaussUptoRow : OpenClaim := { program := "ythcjnkakfpmpbaadoor", sum := "ed26dd67475597f87e973c19aea4205f02225c2e37b5b67e3c10937d1cdccb3b", func := "spandrel/spandrellaw18.CpuGauss", spec := "cpuGauss", inPlace := ["math.archTrunc", "math.Float64bits", "math.Float64frombits"], named := ["spandrel/isa.table"], apart := false, laid := [("spandrel/isa.table", laid_spandrel_isa_table)], narrowed := true }
def CpuGaussUptoSaid : Prop := cpuGaussUptoRow.holds Tryd.pinned (OpenSpec.upto cpuGaussSpec)

/-- 'spandrellaw18.CpuKept', WHERE WHAT IT READS IS OF BULK AT MOST 1048576: true; the input reads as it did. -/
def cpuKeptUptoRow : OpenClaim := { program := "ythcjnkakfpmpbaadoor", sum := "ed26dd67475597f87e973c19aea4205f02225c2e37b5b67e3c10937d1cdccb3b", func := "spandrel/spandrellaw18.CpuKept", spec := "cpuKept", inPlace := ["math.archTrunc", "math.Float64bits", "math.Float64frombits"], unfollowed := true, recurses := true, named := ["spandrel/isa.table"], apart := false, laid := [("spandrel/isa.table", laid_spandrel_isa_table)], narrowed := true }
def CpuKeptUptoSaid : Prop := cpuKeptUptoRow.holds Tryd.pinned (OpenSpec.upto cpuKeptSpec)

/-- 'spandrellaw18.CpuNumbers', WHERE WHAT IT READS IS OF BULK AT MOST 1048576: true; the input reads as it did. -/
def cpuNumbersUptoRow : OpenClaim := { program := "ythcjnkakfpmpbaadoor", sum := "ed26dd67475597f87e973c19aea4205f02225c2e37b5b67e3c10937d1cdccb3b", func := "spandrel/spandrellaw18.CpuNumbers", spec := "cpuNumbers", inPlace := ["math.archTrunc", "math.Float64bits", "math.Float64frombits"], named := ["spandrel/isa.table"], apart := false, laid := [("spandrel/isa.table", laid_spandrel_isa_table)], narrowed := true }
def CpuNumbersUptoSaid : Prop := cpuNumbersUptoRow.holds Tryd.pinned (OpenSpec.upto cpuNumbersSpec)

/-- 'spandrellaw18.CpuFull', WHERE WHAT IT READS IS OF BULK AT MOST 1048576: true; the input reads as it did. -/
def cpuFullUptoRow : OpenClaim := { program := "ythcjnkakfpmpbaadoor", sum := "ed26dd67475597f87e973c19aea4205f02225c2e37b5b67e3c10937d1cdccb3b", func := "spandrel/spandrellaw18.CpuFull", spec := "cpuFull", inPlace := ["math.archTrunc", "math.Float64bits", "math.Float64frombits"], named := ["spandrel/isa.table"], apart := false, laid := [("spandrel/isa.table", laid_spandrel_isa_table)], narrowed := true }
def CpuFullUptoSaid : Prop := cpuFullUptoRow.holds Tryd.pinned (OpenSpec.upto cpuFullSpec)

/-- 'spandrellaw18.CpuPlays', WHERE WHAT IT READS IS OF BULK AT MOST 1048576: true; the input reads as it did. -/
def cpuPlaysUptoRow : OpenClaim := { program := "ythcjnkakfpmpbaadoor", sum := "ed26dd67475597f87e973c19aea4205f02225c2e37b5b67e3c10937d1cdccb3b", func := "spandrel/spandrellaw18.CpuPlays", spec := "cpuPlays", inPlace := ["math.archTrunc", "math.Float64bits", "math.Float64frombits"], named := ["spandrel/isa.table"], apart := false, laid := [("spandrel/isa.table", laid_spandrel_isa_table)], narrowed := true }
def CpuPlaysUptoSaid : Prop := cpuPlaysUptoRow.holds Tryd.pinned (OpenSpec.upto cpuPlaysSpec)

end Rows
end Go.Proofs.YthcjnkakfpmpbaaDoor
