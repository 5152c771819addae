/-
  NARROWER THAN 'FOR EVERY INPUT', by the rows' own cells (each row's printed sentence says how): IsaAsks: laid · IsaChecks: laid · IsaReaches: laid · IsaLengths: laid · IsaNumbers: laid · IsaApart: laid · IsaKept: laid · EncodeEncodes: laid · EncodeApart: laid · EncodeNumbers: laid · EncodeKept: laid · EncodeAll: laid.
  DERIVED. THE GIVEN ROWS OF THIS SEAT. 12 by the template 'for every input the law returns true; each argument reads behind the call as it read before'; 0 by the template 'total and deterministic' (their statements: YtfplkmldleigpaaDoorTotals.lean).
  GIVEN WITH THE SEED: the statements are not yours to turn. If you find one false, say at which input.
  Laid BY PROGRAM, IN A SANDBOX (cutbox-rows.mjs): the forced cells as the released guide's own fill.sh prints them over the translation ceec92bcccddc325… (all of the seat's roots in one cut). By AI agents, Wed Nov 11 2026. No macro, syntax, notation, axiom, sorry.
-/
import Derived.Test.YtfplkmldleigpaaDoorChecked
import GoSem.Claim
import GoSem.ClaimJoined
import GoSem.ClaimMapViews
import Derived.JoinedTies
import Derived.KernelRfl
namespace Go.Proofs.YtfplkmldleigpaaDoor
/- THE CELL 'sum', in the pinned program and in every row, IS THE sha256 OF THE DUMP (.gsa) THAT YtfplkmldleigpaaDoorProg.lean LOADS. Nothing in Lean hashes anything: it is a label: what it is worth is what the hold of that sum in a sandbox is worth. -/
noncomputable def Tryd.pinned : Pinned := { name := "ytfplkmldleigpaadoor", sum := "ceec92bcccddc32508d4aafa4e2dd8aff4d0dd8b26ddfff213f858daaceac1b8", checked := Tryd.checked }
namespace Rows
def none {H : Type} : Left H := { results := [], args := [] }

/- WHAT THE LISTED PACKAGE-LEVEL VARIABLES READ AS WHEN THE CALL BEGINS. Each datum BY PROGRAM (the guide's laid-datum.mjs) off the statement by which the dump's own 'gosem.cut.vars' lays the variable. In a bare row this is a premise. The card (YtfplkmldleigpaaDoorCards.lean) ties it to the program's text. -/
def laid_spandrel_isa_table {H : Type} : DataW H := .agg [.agg [.lit (.string [110, 111, 112]), .lit (.int .u8 0), .lit (.int .i64 1)], .agg [.lit (.string [104, 97, 108, 116]), .lit (.int .u8 1), .lit (.int .i64 1)], .agg [.lit (.string [114, 101, 116]), .lit (.int .u8 2), .lit (.int .i64 1)], .agg [.lit (.string [112, 114, 105, 110, 116]), .lit (.int .u8 3), .lit (.int .i64 2)], .agg [.lit (.string [105, 110]), .lit (.int .u8 4), .lit (.int .i64 2)], .agg [.lit (.string [112, 117, 115, 104]), .lit (.int .u8 5), .lit (.int .i64 2)], .agg [.lit (.string [112, 111, 112]), .lit (.int .u8 6), .lit (.int .i64 2)], .agg [.lit (.string [106, 114]), .lit (.int .u8 7), .lit (.int .i64 2)], .agg [.lit (.string [110, 101, 103]), .lit (.int .u8 8), .lit (.int .i64 2)], .agg [.lit (.string [110, 111, 116]), .lit (.int .u8 9), .lit (.int .i64 2)], .agg [.lit (.string [122, 116, 117, 114, 110]), .lit (.int .u8 10), .lit (.int .i64 3)], .agg [.lit (.string [122, 99, 111, 110, 106]), .lit (.int .u8 11), .lit (.int .i64 3)], .agg [.lit (.string [109, 111, 118]), .lit (.int .u8 16), .lit (.int .i64 4)], .agg [.lit (.string [97, 100, 100]), .lit (.int .u8 17), .lit (.int .i64 4)], .agg [.lit (.string [115, 117, 98]), .lit (.int .u8 18), .lit (.int .i64 4)], .agg [.lit (.string [109, 117, 108]), .lit (.int .u8 19), .lit (.int .i64 4)], .agg [.lit (.string [100, 105, 118]), .lit (.int .u8 20), .lit (.int .i64 4)], .agg [.lit (.string [97, 110, 100]), .lit (.int .u8 21), .lit (.int .i64 4)], .agg [.lit (.string [111, 114]), .lit (.int .u8 22), .lit (.int .i64 4)], .agg [.lit (.string [120, 111, 114]), .lit (.int .u8 23), .lit (.int .i64 4)], .agg [.lit (.string [115, 104, 108]), .lit (.int .u8 24), .lit (.int .i64 4)], .agg [.lit (.string [115, 104, 114]), .lit (.int .u8 25), .lit (.int .i64 4)], .agg [.lit (.string [108, 116]), .lit (.int .u8 26), .lit (.int .i64 4)], .agg [.lit (.string [101, 113]), .lit (.int .u8 27), .lit (.int .i64 4)], .agg [.lit (.string [108, 100, 98]), .lit (.int .u8 28), .lit (.int .i64 4)], .agg [.lit (.string [108, 100, 119]), .lit (.int .u8 29), .lit (.int .i64 4)], .agg [.lit (.string [108, 100, 109]), .lit (.int .u8 30), .lit (.int .i64 4)], .agg [.lit (.string [115, 116, 109]), .lit (.int .u8 31), .lit (.int .i64 4)], .agg [.lit (.string [122, 109, 111, 118]), .lit (.int .u8 32), .lit (.int .i64 5)], .agg [.lit (.string [122, 97, 100, 100]), .lit (.int .u8 33), .lit (.int .i64 5)], .agg [.lit (.string [122, 115, 117, 98]), .lit (.int .u8 34), .lit (.int .i64 5)], .agg [.lit (.string [122, 109, 117, 108]), .lit (.int .u8 35), .lit (.int .i64 5)], .agg [.lit (.string [122, 114, 101]), .lit (.int .u8 36), .lit (.int .i64 6)], .agg [.lit (.string [122, 105, 109]), .lit (.int .u8 37), .lit (.int .i64 6)], .agg [.lit (.string [122, 115, 101, 116]), .lit (.int .u8 38), .lit (.int .i64 7)], .agg [.lit (.string [108, 105, 115]), .lit (.int .u8 48), .lit (.int .i64 8)], .agg [.lit (.string [116, 114, 97, 112]), .lit (.int .u8 49), .lit (.int .i64 9)], .agg [.lit (.string [108, 105]), .lit (.int .u8 50), .lit (.int .i64 10)], .agg [.lit (.string [108, 100, 112]), .lit (.int .u8 51), .lit (.int .i64 11)], .agg [.lit (.string [106, 109, 112]), .lit (.int .u8 64), .lit (.int .i64 12)], .agg [.lit (.string [99, 97, 108, 108]), .lit (.int .u8 67), .lit (.int .i64 12)], .agg [.lit (.string [106, 122]), .lit (.int .u8 70), .lit (.int .i64 13)], .agg [.lit (.string [106, 110, 122]), .lit (.int .u8 73), .lit (.int .i64 13)]]

/-- 'spandrellaw5.IsaAsks': WHATEVER THE INPUT: true; the input reads as it did. -/
def isaAsksSpec : ChangeSpec := { name := "isaAsks", fn := fun _ => fun
  | [d1, d2, d3, d4] => { results := [.lit (.bool true)], args := [d1, d2, d3, d4] }
  | _ => none }
def isaAsksRow : OpenClaim := { program := "ytfplkmldleigpaadoor", sum := "ceec92bcccddc32508d4aafa4e2dd8aff4d0dd8b26ddfff213f858daaceac1b8", func := "spandrel/spandrellaw5.IsaAsks", spec := "isaAsks", named := ["spandrel/isa.table"], apart := false, laid := [("spandrel/isa.table", laid_spandrel_isa_table)] }
def IsaAsksSaid : Prop := isaAsksRow.holds Tryd.pinned (OpenSpec.ofChange isaAsksSpec)

/-- ITS FALSE NEIGHBOUR: 'it returns false'. Refute it at one input. -/
def isaAsksWrong : ChangeSpec := { name := "isaAsks", fn := fun _ => fun
  | [d1, d2, d3, d4] => { results := [.lit (.bool false)], args := [d1, d2, d3, d4] }
  | _ => none }
def IsaAsksWrongFalsely : Prop := isaAsksRow.holds Tryd.pinned (OpenSpec.ofChange isaAsksWrong)

/-- 'spandrellaw5.IsaChecks': WHATEVER THE INPUT: true; the input reads as it did. -/
def isaChecksSpec : ChangeSpec := { name := "isaChecks", fn := fun _ => fun
  | [d] => { results := [.lit (.bool true)], args := [d] }
  | _ => none }
def isaChecksRow : OpenClaim := { program := "ytfplkmldleigpaadoor", sum := "ceec92bcccddc32508d4aafa4e2dd8aff4d0dd8b26ddfff213f858daaceac1b8", func := "spandrel/spandrellaw5.IsaChecks", spec := "isaChecks", named := ["spandrel/isa.table"], apart := false, laid := [("spandrel/isa.table", laid_spandrel_isa_table)] }
def IsaChecksSaid : Prop := isaChecksRow.holds Tryd.pinned (OpenSpec.ofChange isaChecksSpec)

/-- ITS FALSE NEIGHBOUR: 'it returns false'. Refute it at one input. -/
def isaChecksWrong : ChangeSpec := { name := "isaChecks", fn := fun _ => fun
  | [d] => { results := [.lit (.bool false)], args := [d] }
  | _ => none }
def IsaChecksWrongFalsely : Prop := isaChecksRow.holds Tryd.pinned (OpenSpec.ofChange isaChecksWrong)

/-- 'spandrellaw5.IsaReaches': WHATEVER THE INPUT: true; the input reads as it did. -/
def isaReachesSpec : ChangeSpec := { name := "isaReaches", fn := fun _ => fun
  | [d] => { results := [.lit (.bool true)], args := [d] }
  | _ => none }
def isaReachesRow : OpenClaim := { program := "ytfplkmldleigpaadoor", sum := "ceec92bcccddc32508d4aafa4e2dd8aff4d0dd8b26ddfff213f858daaceac1b8", func := "spandrel/spandrellaw5.IsaReaches", spec := "isaReaches", named := ["spandrel/isa.table"], apart := false, laid := [("spandrel/isa.table", laid_spandrel_isa_table)] }
def IsaReachesSaid : Prop := isaReachesRow.holds Tryd.pinned (OpenSpec.ofChange isaReachesSpec)

/-- ITS FALSE NEIGHBOUR: 'it returns false'. Refute it at one input. -/
def isaReachesWrong : ChangeSpec := { name := "isaReaches", fn := fun _ => fun
  | [d] => { results := [.lit (.bool false)], args := [d] }
  | _ => none }
def IsaReachesWrongFalsely : Prop := isaReachesRow.holds Tryd.pinned (OpenSpec.ofChange isaReachesWrong)

/-- 'spandrellaw5.IsaLengths': WHATEVER THE INPUT: true; the input reads as it did. -/
def isaLengthsSpec : ChangeSpec := { name := "isaLengths", fn := fun _ => fun
  | [d] => { results := [.lit (.bool true)], args := [d] }
  | _ => none }
def isaLengthsRow : OpenClaim := { program := "ytfplkmldleigpaadoor", sum := "ceec92bcccddc32508d4aafa4e2dd8aff4d0dd8b26ddfff213f858daaceac1b8", func := "spandrel/spandrellaw5.IsaLengths", spec := "isaLengths", named := ["spandrel/isa.table"], apart := false, laid := [("spandrel/isa.table", laid_spandrel_isa_table)] }
def IsaLengthsSaid : Prop := isaLengthsRow.holds Tryd.pinned (OpenSpec.ofChange isaLengthsSpec)

/-- ITS FALSE NEIGHBOUR: 'it returns false'. Refute it at one input. -/
def isaLengthsWrong : ChangeSpec := { name := "isaLengths", fn := fun _ => fun
  | [d] => { results := [.lit (.bool false)], args := [d] }
  | _ => none }
def IsaLengthsWrongFalsely : Prop := isaLengthsRow.holds Tryd.pinned (OpenSpec.ofChange isaLengthsWrong)

/-- 'spandrellaw5.IsaNumbers': WHATEVER THE INPUT: true; the input reads as it did. -/
def isaNumbersSpec : ChangeSpec := { name := "isaNumbers", fn := fun _ => fun
  | [] => { results := [.lit (.bool true)], args := [] }
  | _ => none }
def isaNumbersRow : OpenClaim := { program := "ytfplkmldleigpaadoor", sum := "ceec92bcccddc32508d4aafa4e2dd8aff4d0dd8b26ddfff213f858daaceac1b8", func := "spandrel/spandrellaw5.IsaNumbers", spec := "isaNumbers", named := ["spandrel/isa.table"], apart := false, laid := [("spandrel/isa.table", laid_spandrel_isa_table)] }
def IsaNumbersSaid : Prop := isaNumbersRow.holds Tryd.pinned (OpenSpec.ofChange isaNumbersSpec)

/-- ITS FALSE NEIGHBOUR: 'it returns false'. Refute it at one input. -/
def isaNumbersWrong : ChangeSpec := { name := "isaNumbers", fn := fun _ => fun
  | [] => { results := [.lit (.bool false)], args := [] }
  | _ => none }
def IsaNumbersWrongFalsely : Prop := isaNumbersRow.holds Tryd.pinned (OpenSpec.ofChange isaNumbersWrong)

/-- 'spandrellaw5.IsaApart': WHATEVER THE INPUT: true; the input reads as it did. -/
def isaApartSpec : ChangeSpec := { name := "isaApart", fn := fun _ => fun
  | [d1, d2] => { results := [.lit (.bool true)], args := [d1, d2] }
  | _ => none }
def isaApartRow : OpenClaim := { program := "ytfplkmldleigpaadoor", sum := "ceec92bcccddc32508d4aafa4e2dd8aff4d0dd8b26ddfff213f858daaceac1b8", func := "spandrel/spandrellaw5.IsaApart", spec := "isaApart", named := ["spandrel/isa.table"], apart := false, laid := [("spandrel/isa.table", laid_spandrel_isa_table)] }
def IsaApartSaid : Prop := isaApartRow.holds Tryd.pinned (OpenSpec.ofChange isaApartSpec)

/-- ITS FALSE NEIGHBOUR: 'it returns false'. Refute it at one input. -/
def isaApartWrong : ChangeSpec := { name := "isaApart", fn := fun _ => fun
  | [d1, d2] => { results := [.lit (.bool false)], args := [d1, d2] }
  | _ => none }
def IsaApartWrongFalsely : Prop := isaApartRow.holds Tryd.pinned (OpenSpec.ofChange isaApartWrong)

/-- 'spandrellaw5.IsaKept': WHATEVER THE INPUT: true; the input reads as it did. -/
def isaKeptSpec : ChangeSpec := { name := "isaKept", fn := fun _ => fun
  | [] => { results := [.lit (.bool true)], args := [] }
  | _ => none }
def isaKeptRow : OpenClaim := { program := "ytfplkmldleigpaadoor", sum := "ceec92bcccddc32508d4aafa4e2dd8aff4d0dd8b26ddfff213f858daaceac1b8", func := "spandrel/spandrellaw5.IsaKept", spec := "isaKept", unfollowed := true, recurses := true, named := ["spandrel/isa.table"], apart := false, laid := [("spandrel/isa.table", laid_spandrel_isa_table)] }
def IsaKeptSaid : Prop := isaKeptRow.holds Tryd.pinned (OpenSpec.ofChange isaKeptSpec)

/-- ITS FALSE NEIGHBOUR: 'it returns false'. Refute it at one input. -/
def isaKeptWrong : ChangeSpec := { name := "isaKept", fn := fun _ => fun
  | [] => { results := [.lit (.bool false)], args := [] }
  | _ => none }
def IsaKeptWrongFalsely : Prop := isaKeptRow.holds Tryd.pinned (OpenSpec.ofChange isaKeptWrong)

/-- 'spandrellaw6.EncodeEncodes': WHATEVER THE INPUT: true; the input reads as it did. -/
def encodeEncodesSpec : ChangeSpec := { name := "encodeEncodes", fn := fun _ => fun
  | [d] => { results := [.lit (.bool true)], args := [d] }
  | _ => none }
def encodeEncodesRow : OpenClaim := { program := "ytfplkmldleigpaadoor", sum := "ceec92bcccddc32508d4aafa4e2dd8aff4d0dd8b26ddfff213f858daaceac1b8", func := "spandrel/spandrellaw6.EncodeEncodes", spec := "encodeEncodes", named := ["spandrel/isa.table"], apart := false, laid := [("spandrel/isa.table", laid_spandrel_isa_table)] }
def EncodeEncodesSaid : Prop := encodeEncodesRow.holds Tryd.pinned (OpenSpec.ofChange encodeEncodesSpec)

/-- ITS FALSE NEIGHBOUR: 'it returns false'. Refute it at one input. -/
def encodeEncodesWrong : ChangeSpec := { name := "encodeEncodes", fn := fun _ => fun
  | [d] => { results := [.lit (.bool false)], args := [d] }
  | _ => none }
def EncodeEncodesWrongFalsely : Prop := encodeEncodesRow.holds Tryd.pinned (OpenSpec.ofChange encodeEncodesWrong)

/-- 'spandrellaw6.EncodeApart': WHATEVER THE INPUT: true; the input reads as it did. -/
def encodeApartSpec : ChangeSpec := { name := "encodeApart", fn := fun _ => fun
  | [d1, d2] => { results := [.lit (.bool true)], args := [d1, d2] }
  | _ => none }
def encodeApartRow : OpenClaim := { program := "ytfplkmldleigpaadoor", sum := "ceec92bcccddc32508d4aafa4e2dd8aff4d0dd8b26ddfff213f858daaceac1b8", func := "spandrel/spandrellaw6.EncodeApart", spec := "encodeApart", named := ["spandrel/isa.table"], apart := false, laid := [("spandrel/isa.table", laid_spandrel_isa_table)] }
def EncodeApartSaid : Prop := encodeApartRow.holds Tryd.pinned (OpenSpec.ofChange encodeApartSpec)

/-- ITS FALSE NEIGHBOUR: 'it returns false'. Refute it at one input. -/
def encodeApartWrong : ChangeSpec := { name := "encodeApart", fn := fun _ => fun
  | [d1, d2] => { results := [.lit (.bool false)], args := [d1, d2] }
  | _ => none }
def EncodeApartWrongFalsely : Prop := encodeApartRow.holds Tryd.pinned (OpenSpec.ofChange encodeApartWrong)

/-- 'spandrellaw6.EncodeNumbers': WHATEVER THE INPUT: true; the input reads as it did. -/
def encodeNumbersSpec : ChangeSpec := { name := "encodeNumbers", fn := fun _ => fun
  | [] => { results := [.lit (.bool true)], args := [] }
  | _ => none }
def encodeNumbersRow : OpenClaim := { program := "ytfplkmldleigpaadoor", sum := "ceec92bcccddc32508d4aafa4e2dd8aff4d0dd8b26ddfff213f858daaceac1b8", func := "spandrel/spandrellaw6.EncodeNumbers", spec := "encodeNumbers", named := ["spandrel/isa.table"], apart := false, laid := [("spandrel/isa.table", laid_spandrel_isa_table)] }
def EncodeNumbersSaid : Prop := encodeNumbersRow.holds Tryd.pinned (OpenSpec.ofChange encodeNumbersSpec)

/-- ITS FALSE NEIGHBOUR: 'it returns false'. Refute it at one input. -/
def encodeNumbersWrong : ChangeSpec := { name := "encodeNumbers", fn := fun _ => fun
  | [] => { results := [.lit (.bool false)], args := [] }
  | _ => none }
def EncodeNumbersWrongFalsely : Prop := encodeNumbersRow.holds Tryd.pinned (OpenSpec.ofChange encodeNumbersWrong)

/-- 'spandrellaw6.EncodeKept': WHATEVER THE INPUT: true; the input reads as it did. -/
def encodeKeptSpec : ChangeSpec := { name := "encodeKept", fn := fun _ => fun
  | [d] => { results := [.lit (.bool true)], args := [d] }
  | _ => none }
def encodeKeptRow : OpenClaim := { program := "ytfplkmldleigpaadoor", sum := "ceec92bcccddc32508d4aafa4e2dd8aff4d0dd8b26ddfff213f858daaceac1b8", func := "spandrel/spandrellaw6.EncodeKept", spec := "encodeKept", unfollowed := true, recurses := true, named := ["spandrel/isa.table"], apart := false, laid := [("spandrel/isa.table", laid_spandrel_isa_table)] }
def EncodeKeptSaid : Prop := encodeKeptRow.holds Tryd.pinned (OpenSpec.ofChange encodeKeptSpec)

/-- ITS FALSE NEIGHBOUR: 'it returns false'. Refute it at one input. -/
def encodeKeptWrong : ChangeSpec := { name := "encodeKept", fn := fun _ => fun
  | [d] => { results := [.lit (.bool false)], args := [d] }
  | _ => none }
def EncodeKeptWrongFalsely : Prop := encodeKeptRow.holds Tryd.pinned (OpenSpec.ofChange encodeKeptWrong)

/-- 'spandrellaw6.EncodeAll': WHATEVER THE INPUT: true; the input reads as it did. -/
def encodeAllSpec : ChangeSpec := { name := "encodeAll", fn := fun _ => fun
  | [d] => { results := [.lit (.bool true)], args := [d] }
  | _ => none }
def encodeAllRow : OpenClaim := { program := "ytfplkmldleigpaadoor", sum := "ceec92bcccddc32508d4aafa4e2dd8aff4d0dd8b26ddfff213f858daaceac1b8", func := "spandrel/spandrellaw6.EncodeAll", spec := "encodeAll", named := ["spandrel/isa.table"], apart := false, laid := [("spandrel/isa.table", laid_spandrel_isa_table)] }
def EncodeAllSaid : Prop := encodeAllRow.holds Tryd.pinned (OpenSpec.ofChange encodeAllSpec)

/-- ITS FALSE NEIGHBOUR: 'it returns false'. Refute it at one input. -/
def encodeAllWrong : ChangeSpec := { name := "encodeAll", fn := fun _ => fun
  | [d] => { results := [.lit (.bool false)], args := [d] }
  | _ => none }
def EncodeAllWrongFalsely : Prop := encodeAllRow.holds Tryd.pinned (OpenSpec.ofChange encodeAllWrong)

/- THE SECOND FORM. 'bulk': how many values and letters a reading holds, each counted each time it is reached (what is shared counts as often as it is met; a slice's spare places count too). A statement '..UptoSaid' is the law's where the arguments, and the package variables that the reading takes, are together of bulk at most 1048576: NARROWER than '..Said'. Prove '..Said' where nothing that the law and all that it calls make is longer than what came in: it says more and counts as full. Else prove '..UptoSaid'. A law counts once. -/
mutual
def uptoBulk {H : Type} : DataW H → Nat
  | .lit (.string bytes) => bytes.length + 1
  | .lit _ => 1
  | .nil => 1
  | .ptr d => uptoBulk d + 1
  | .slice elems spare => uptoBulkAll elems + uptoBulkAll spare + 1
  | .agg parts => uptoBulkAll parts + 1
  | .iface _ d => uptoBulk d + 1
  | .map entries => uptoBulkEntries entries + 1
  | .held _ => 1
def uptoBulkAll {H : Type} : List (DataW H) → Nat
  | [] => 0
  | d :: r => uptoBulk d + uptoBulkAll r
def uptoBulkEntries {H : Type} : List (Lit × DataW H) → Nat
  | [] => 0
  | x :: r => uptoBulkEntry x + uptoBulkEntries r
def uptoBulkEntry {H : Type} : Lit × DataW H → Nat
  | (.string bytes, d) => bytes.length + uptoBulk d + 1
  | (_, d) => uptoBulk d + 1
 end
def uptoSmall : (H : Type) → List (DataW H) → Bool := fun _ ds => decide (uptoBulkAll ds ≤ 1048576)
def OpenSpec.upto (s : _root_.Go.ChangeSpec) : _root_.Go.OpenSpec := { _root_.Go.OpenSpec.ofChange s with cond := some uptoSmall }

/-- 'spandrellaw5.IsaAsks', WHERE WHAT IT READS IS OF BULK AT MOST 1048576: true; the input reads as it did. -/
def isaAsksUptoRow : OpenClaim := { program := "ytfplkmldleigpaadoor", sum := "ceec92bcccddc32508d4aafa4e2dd8aff4d0dd8b26ddfff213f858daaceac1b8", func := "spandrel/spandrellaw5.IsaAsks", spec := "isaAsks", named := ["spandrel/isa.table"], apart := false, laid := [("spandrel/isa.table", laid_spandrel_isa_table)], narrowed := true }
def IsaAsksUptoSaid : Prop := isaAsksUptoRow.holds Tryd.pinned (OpenSpec.upto isaAsksSpec)

/-- 'spandrellaw5.IsaChecks', WHERE WHAT IT READS IS OF BULK AT MOST 1048576: true; the input reads as it did. -/
def isaChecksUptoRow : OpenClaim := { program := "ytfplkmldleigpaadoor", sum := "ceec92bcccddc32508d4aafa4e2dd8aff4d0dd8b26ddfff213f858daaceac1b8", func := "spandrel/spandrellaw5.IsaChecks", spec := "isaChecks", named := ["spandrel/isa.table"], apart := false, laid := [("spandrel/isa.table", laid_spandrel_isa_table)], narrowed := true }
def IsaChecksUptoSaid : Prop := isaChecksUptoRow.holds Tryd.pinned (OpenSpec.upto isaChecksSpec)

/-- 'spandrellaw5.IsaReaches', WHERE WHAT IT READS IS OF BULK AT MOST 1048576: true; the input reads as it did. -/
def isaReachesUptoRow : OpenClaim := { program := "ytfplkmldleigpaadoor", sum := "ceec92bcccddc32508d4aafa4e2dd8aff4d0dd8b26ddfff213f858daaceac1b8", func := "spandrel/spandrellaw5.IsaReaches", spec := "isaReaches", named := ["spandrel/isa.table"], apart := false, laid := [("spandrel/isa.table", laid_spandrel_isa_table)], narrowed := true }
def IsaReachesUptoSaid : Prop := isaReachesUptoRow.holds Tryd.pinned (OpenSpec.upto isaReachesSpec)

/-- 'spandrellaw5.IsaLengths', WHERE WHAT IT READS IS OF BULK AT MOST 1048576: true; the input reads as it did. -/
def isaLengthsUptoRow : OpenClaim := { program := "ytfplkmldleigpaadoor", sum := "ceec92bcccddc32508d4aafa4e2dd8aff4d0dd8b26ddfff213f858daaceac1b8", func := "spandrel/spandrellaw5.IsaLengths", spec := "isaLengths", named := ["spandrel/isa.table"], apart := false, laid := [("spandrel/isa.table", laid_spandrel_isa_table)], narrowed := true }
def IsaLengthsUptoSaid : Prop := isaLengthsUptoRow.holds Tryd.pinned (OpenSpec.upto isaLengthsSpec)

/-- 'spandrellaw5.IsaNumbers', WHERE WHAT IT READS IS OF BULK AT MOST 1048576: true; the input reads as it did. -/
def isaNumbersUptoRow : OpenClaim := { program := "ytfplkmldleigpaadoor", sum := "ceec92bcccddc32508d4aafa4e2dd8aff4d0dd8b26ddfff213f858daaceac1b8", func := "spandrel/spandrellaw5.IsaNumbers", spec := "isaNumbers", named := ["spandrel/isa.table"], apart := false, laid := [("spandrel/isa.table", laid_spandrel_isa_table)], narrowed := true }
def IsaNumbersUptoSaid : Prop := isaNumbersUptoRow.holds Tryd.pinned (OpenSpec.upto isaNumbersSpec)

/-- 'spandrellaw5.IsaApart', WHERE WHAT IT READS IS OF BULK AT MOST 1048576: true; the input reads as it did. -/
def isaApartUptoRow : OpenClaim := { program := "ytfplkmldleigpaadoor", sum := "ceec92bcccddc32508d4aafa4e2dd8aff4d0dd8b26ddfff213f858daaceac1b8", func := "spandrel/spandrellaw5.IsaApart", spec := "isaApart", named := ["spandrel/isa.table"], apart := false, laid := [("spandrel/isa.table", laid_spandrel_isa_table)], narrowed := true }
def IsaApartUptoSaid : Prop := isaApartUptoRow.holds Tryd.pinned (OpenSpec.upto isaApartSpec)

/-- 'spandrellaw5.IsaKept', WHERE WHAT IT READS IS OF BULK AT MOST 1048576: true; the input reads as it did. -/
def isaKeptUptoRow : OpenClaim := { program := "ytfplkmldleigpaadoor", sum := "ceec92bcccddc32508d4aafa4e2dd8aff4d0dd8b26ddfff213f858daaceac1b8", func := "spandrel/spandrellaw5.IsaKept", spec := "isaKept", unfollowed := true, recurses := true, named := ["spandrel/isa.table"], apart := false, laid := [("spandrel/isa.table", laid_spandrel_isa_table)], narrowed := true }
def IsaKeptUptoSaid : Prop := isaKeptUptoRow.holds Tryd.pinned (OpenSpec.upto isaKeptSpec)

/-- 'spandrellaw6.EncodeEncodes', WHERE WHAT IT READS IS OF BULK AT MOST 1048576: true; the input reads as it did. -/
def encodeEncodesUptoRow : OpenClaim := { program := "ytfplkmldleigpaadoor", sum := "ceec92bcccddc32508d4aafa4e2dd8aff4d0dd8b26ddfff213f858daaceac1b8", func := "spandrel/spandrellaw6.EncodeEncodes", spec := "encodeEncodes", named := ["spandrel/isa.table"], apart := false, laid := [("spandrel/isa.table", laid_spandrel_isa_table)], narrowed := true }
def EncodeEncodesUptoSaid : Prop := encodeEncodesUptoRow.holds Tryd.pinned (OpenSpec.upto encodeEncodesSpec)

/-- 'spandrellaw6.EncodeApart', WHERE WHAT IT READS IS OF BULK AT MOST 1048576: true; the input reads as it did. -/
def encodeApartUptoRow : OpenClaim := { program := "ytfplkmldleigpaadoor", sum := "ceec92bcccddc32508d4aafa4e2dd8aff4d0dd8b26ddfff213f858daaceac1b8", func := "spandrel/spandrellaw6.EncodeApart", spec := "encodeApart", named := ["spandrel/isa.table"], apart := false, laid := [("spandrel/isa.table", laid_spandrel_isa_table)], narrowed := true }
def EncodeApartUptoSaid : Prop := encodeApartUptoRow.holds Tryd.pinned (OpenSpec.upto encodeApartSpec)

/-- 'spandrellaw6.EncodeNumbers', WHERE WHAT IT READS IS OF BULK AT MOST 1048576: true; the input reads as it did. -/
def encodeNumbersUptoRow : OpenClaim := { program := "ytfplkmldleigpaadoor", sum := "ceec92bcccddc32508d4aafa4e2dd8aff4d0dd8b26ddfff213f858daaceac1b8", func := "spandrel/spandrellaw6.EncodeNumbers", spec := "encodeNumbers", named := ["spandrel/isa.table"], apart := false, laid := [("spandrel/isa.table", laid_spandrel_isa_table)], narrowed := true }
def EncodeNumbersUptoSaid : Prop := encodeNumbersUptoRow.holds Tryd.pinned (OpenSpec.upto encodeNumbersSpec)

/-- 'spandrellaw6.EncodeKept', WHERE WHAT IT READS IS OF BULK AT MOST 1048576: true; the input reads as it did. -/
def encodeKeptUptoRow : OpenClaim := { program := "ytfplkmldleigpaadoor", sum := "ceec92bcccddc32508d4aafa4e2dd8aff4d0dd8b26ddfff213f858daaceac1b8", func := "spandrel/spandrellaw6.EncodeKept", spec := "encodeKept", unfollowed := true, recurses := true, named := ["spandrel/isa.table"], apart := false, laid := [("spandrel/isa.table", laid_spandrel_isa_table)], narrowed := true }
def EncodeKeptUptoSaid : Prop := encodeKeptUptoRow.holds Tryd.pinned (OpenSpec.upto encodeKeptSpec)

/-- 'spandrellaw6.EncodeAll', WHERE WHAT IT READS IS OF BULK AT MOST 1048576: true; the input reads as it did. -/
def encodeAllUptoRow : OpenClaim := { program := "ytfplkmldleigpaadoor", sum := "ceec92bcccddc32508d4aafa4e2dd8aff4d0dd8b26ddfff213f858daaceac1b8", func := "spandrel/spandrellaw6.EncodeAll", spec := "encodeAll", named := ["spandrel/isa.table"], apart := false, laid := [("spandrel/isa.table", laid_spandrel_isa_table)], narrowed := true }
def EncodeAllUptoSaid : Prop := encodeAllUptoRow.holds Tryd.pinned (OpenSpec.upto encodeAllSpec)

end Rows
end Go.Proofs.YtfplkmldleigpaaDoor
