/-
  DERIVED. GIVEN WITH THE SEED: THE CARDS: each row of YtfplkmldleigpaaDoorRows.lean that lists a variable, with what it lists TIED to the program's text (the seventh form; the later family's looks); each row that meets fmt, with fmt's text TOLD by the authors' own Lean function (tested against real Go, not proved from fmt's source: count such statements apart). THE CARD IS WHAT COUNTS. Prove the row's statement (the work); the ties are given (YtfplkmldleigpaaDoorTie.lean); close each card by the builder's one call (the guide's Derived/Test/ToyasCard.lean, 'card_holds'). Laid BY PROGRAM, IN A SANDBOX (cutbox-door.mjs). By AI agents, Wed Nov 11 2026. No macro, syntax, notation, axiom, sorry.
-/
import Derived.Test.YtfplkmldleigpaaDoorRows
import GoSem.ClaimSeven
namespace Go.Proofs.YtfplkmldleigpaaDoor
namespace Rows

/-- THE TIED CARD OF 'spandrellaw5.IsaAsks'. -/
def isaAsksCard : Claim7 := { stood := { row := isaAsksRow, standIns := [], harness := (true, "bde9cefcf44d7f956f10f1cd48f0761250524e68dde743aa6a63cd9ff9161d7e"), looks := false }, kinds := [], alts := [], laidByText := true, laidKinds := [.widerDeep], laidTests := true, laidLooks := .later }
def IsaAsksCardSaid : Prop := Claim7.holds Tryd.pinned (.plain (OpenSpec.ofChange isaAsksSpec)) isaAsksCard

/-- THE TIED CARD OF 'spandrellaw5.IsaChecks'. -/
def isaChecksCard : Claim7 := { stood := { row := isaChecksRow, standIns := [], harness := (true, "bde9cefcf44d7f956f10f1cd48f0761250524e68dde743aa6a63cd9ff9161d7e"), looks := false }, kinds := [], alts := [], laidByText := true, laidKinds := [.widerDeep], laidTests := true, laidLooks := .later }
def IsaChecksCardSaid : Prop := Claim7.holds Tryd.pinned (.plain (OpenSpec.ofChange isaChecksSpec)) isaChecksCard

/-- THE TIED CARD OF 'spandrellaw5.IsaReaches'. -/
def isaReachesCard : Claim7 := { stood := { row := isaReachesRow, standIns := [], harness := (true, "bde9cefcf44d7f956f10f1cd48f0761250524e68dde743aa6a63cd9ff9161d7e"), looks := false }, kinds := [], alts := [], laidByText := true, laidKinds := [.widerDeep], laidTests := true, laidLooks := .later }
def IsaReachesCardSaid : Prop := Claim7.holds Tryd.pinned (.plain (OpenSpec.ofChange isaReachesSpec)) isaReachesCard

/-- THE TIED CARD OF 'spandrellaw5.IsaLengths'. -/
def isaLengthsCard : Claim7 := { stood := { row := isaLengthsRow, standIns := [], harness := (true, "bde9cefcf44d7f956f10f1cd48f0761250524e68dde743aa6a63cd9ff9161d7e"), looks := false }, kinds := [], alts := [], laidByText := true, laidKinds := [.widerDeep], laidTests := true, laidLooks := .later }
def IsaLengthsCardSaid : Prop := Claim7.holds Tryd.pinned (.plain (OpenSpec.ofChange isaLengthsSpec)) isaLengthsCard

/-- THE TIED CARD OF 'spandrellaw5.IsaNumbers'. -/
def isaNumbersCard : Claim7 := { stood := { row := isaNumbersRow, standIns := [], harness := (true, "bde9cefcf44d7f956f10f1cd48f0761250524e68dde743aa6a63cd9ff9161d7e"), looks := false }, kinds := [], alts := [], laidByText := true, laidKinds := [.widerDeep], laidTests := true, laidLooks := .later }
def IsaNumbersCardSaid : Prop := Claim7.holds Tryd.pinned (.plain (OpenSpec.ofChange isaNumbersSpec)) isaNumbersCard

/-- THE TIED CARD OF 'spandrellaw5.IsaApart'. -/
def isaApartCard : Claim7 := { stood := { row := isaApartRow, standIns := [], harness := (true, "bde9cefcf44d7f956f10f1cd48f0761250524e68dde743aa6a63cd9ff9161d7e"), looks := false }, kinds := [], alts := [], laidByText := true, laidKinds := [.widerDeep], laidTests := true, laidLooks := .later }
def IsaApartCardSaid : Prop := Claim7.holds Tryd.pinned (.plain (OpenSpec.ofChange isaApartSpec)) isaApartCard

/-- THE TIED CARD OF 'spandrellaw5.IsaKept'. -/
def isaKeptCard : Claim7 := { stood := { row := isaKeptRow, standIns := [], harness := (true, "bde9cefcf44d7f956f10f1cd48f0761250524e68dde743aa6a63cd9ff9161d7e"), looks := false }, kinds := [], alts := [], laidByText := true, laidKinds := [.widerDeep], laidTests := true, laidLooks := .later }
def IsaKeptCardSaid : Prop := Claim7.holds Tryd.pinned (.plain (OpenSpec.ofChange isaKeptSpec)) isaKeptCard

/-- THE TIED CARD OF 'spandrellaw6.EncodeEncodes'. -/
def encodeEncodesCard : Claim7 := { stood := { row := encodeEncodesRow, standIns := [], harness := (true, "bde9cefcf44d7f956f10f1cd48f0761250524e68dde743aa6a63cd9ff9161d7e"), looks := false }, kinds := [], alts := [], laidByText := true, laidKinds := [.widerDeep], laidTests := true, laidLooks := .later }
def EncodeEncodesCardSaid : Prop := Claim7.holds Tryd.pinned (.plain (OpenSpec.ofChange encodeEncodesSpec)) encodeEncodesCard

/-- THE TIED CARD OF 'spandrellaw6.EncodeApart'. -/
def encodeApartCard : Claim7 := { stood := { row := encodeApartRow, standIns := [], harness := (true, "bde9cefcf44d7f956f10f1cd48f0761250524e68dde743aa6a63cd9ff9161d7e"), looks := false }, kinds := [], alts := [], laidByText := true, laidKinds := [.widerDeep], laidTests := true, laidLooks := .later }
def EncodeApartCardSaid : Prop := Claim7.holds Tryd.pinned (.plain (OpenSpec.ofChange encodeApartSpec)) encodeApartCard

/-- THE TIED CARD OF 'spandrellaw6.EncodeNumbers'. -/
def encodeNumbersCard : Claim7 := { stood := { row := encodeNumbersRow, standIns := [], harness := (true, "bde9cefcf44d7f956f10f1cd48f0761250524e68dde743aa6a63cd9ff9161d7e"), looks := false }, kinds := [], alts := [], laidByText := true, laidKinds := [.widerDeep], laidTests := true, laidLooks := .later }
def EncodeNumbersCardSaid : Prop := Claim7.holds Tryd.pinned (.plain (OpenSpec.ofChange encodeNumbersSpec)) encodeNumbersCard

/-- THE TIED CARD OF 'spandrellaw6.EncodeKept'. -/
def encodeKeptCard : Claim7 := { stood := { row := encodeKeptRow, standIns := [], harness := (true, "bde9cefcf44d7f956f10f1cd48f0761250524e68dde743aa6a63cd9ff9161d7e"), looks := false }, kinds := [], alts := [], laidByText := true, laidKinds := [.widerDeep], laidTests := true, laidLooks := .later }
def EncodeKeptCardSaid : Prop := Claim7.holds Tryd.pinned (.plain (OpenSpec.ofChange encodeKeptSpec)) encodeKeptCard

/-- THE TIED CARD OF 'spandrellaw6.EncodeAll'. -/
def encodeAllCard : Claim7 := { stood := { row := encodeAllRow, standIns := [], harness := (true, "bde9cefcf44d7f956f10f1cd48f0761250524e68dde743aa6a63cd9ff9161d7e"), looks := false }, kinds := [], alts := [], laidByText := true, laidKinds := [.widerDeep], laidTests := true, laidLooks := .later }
def EncodeAllCardSaid : Prop := Claim7.holds Tryd.pinned (.plain (OpenSpec.ofChange encodeAllSpec)) encodeAllCard

/-- THE SECOND FORM's CARD OF 'spandrellaw5.IsaAsks'. -/
def isaAsksUptoCard : Claim7 := { stood := { row := isaAsksUptoRow, standIns := [], harness := (true, "bde9cefcf44d7f956f10f1cd48f0761250524e68dde743aa6a63cd9ff9161d7e"), looks := false }, kinds := [], alts := [], laidByText := true, laidKinds := [.widerDeep], laidTests := true, laidLooks := .later }
def IsaAsksUptoCardSaid : Prop := Claim7.holds Tryd.pinned (.plain (OpenSpec.upto isaAsksSpec)) isaAsksUptoCard

/-- THE SECOND FORM's CARD OF 'spandrellaw5.IsaChecks'. -/
def isaChecksUptoCard : Claim7 := { stood := { row := isaChecksUptoRow, standIns := [], harness := (true, "bde9cefcf44d7f956f10f1cd48f0761250524e68dde743aa6a63cd9ff9161d7e"), looks := false }, kinds := [], alts := [], laidByText := true, laidKinds := [.widerDeep], laidTests := true, laidLooks := .later }
def IsaChecksUptoCardSaid : Prop := Claim7.holds Tryd.pinned (.plain (OpenSpec.upto isaChecksSpec)) isaChecksUptoCard

/-- THE SECOND FORM's CARD OF 'spandrellaw5.IsaReaches'. -/
def isaReachesUptoCard : Claim7 := { stood := { row := isaReachesUptoRow, standIns := [], harness := (true, "bde9cefcf44d7f956f10f1cd48f0761250524e68dde743aa6a63cd9ff9161d7e"), looks := false }, kinds := [], alts := [], laidByText := true, laidKinds := [.widerDeep], laidTests := true, laidLooks := .later }
def IsaReachesUptoCardSaid : Prop := Claim7.holds Tryd.pinned (.plain (OpenSpec.upto isaReachesSpec)) isaReachesUptoCard

/-- THE SECOND FORM's CARD OF 'spandrellaw5.IsaLengths'. -/
def isaLengthsUptoCard : Claim7 := { stood := { row := isaLengthsUptoRow, standIns := [], harness := (true, "bde9cefcf44d7f956f10f1cd48f0761250524e68dde743aa6a63cd9ff9161d7e"), looks := false }, kinds := [], alts := [], laidByText := true, laidKinds := [.widerDeep], laidTests := true, laidLooks := .later }
def IsaLengthsUptoCardSaid : Prop := Claim7.holds Tryd.pinned (.plain (OpenSpec.upto isaLengthsSpec)) isaLengthsUptoCard

/-- THE SECOND FORM's CARD OF 'spandrellaw5.IsaNumbers'. -/
def isaNumbersUptoCard : Claim7 := { stood := { row := isaNumbersUptoRow, standIns := [], harness := (true, "bde9cefcf44d7f956f10f1cd48f0761250524e68dde743aa6a63cd9ff9161d7e"), looks := false }, kinds := [], alts := [], laidByText := true, laidKinds := [.widerDeep], laidTests := true, laidLooks := .later }
def IsaNumbersUptoCardSaid : Prop := Claim7.holds Tryd.pinned (.plain (OpenSpec.upto isaNumbersSpec)) isaNumbersUptoCard

/-- THE SECOND FORM's CARD OF 'spandrellaw5.IsaApart'. -/
def isaApartUptoCard : Claim7 := { stood := { row := isaApartUptoRow, standIns := [], harness := (true, "bde9cefcf44d7f956f10f1cd48f0761250524e68dde743aa6a63cd9ff9161d7e"), looks := false }, kinds := [], alts := [], laidByText := true, laidKinds := [.widerDeep], laidTests := true, laidLooks := .later }
def IsaApartUptoCardSaid : Prop := Claim7.holds Tryd.pinned (.plain (OpenSpec.upto isaApartSpec)) isaApartUptoCard

/-- THE SECOND FORM's CARD OF 'spandrellaw5.IsaKept'. -/
def isaKeptUptoCard : Claim7 := { stood := { row := isaKeptUptoRow, standIns := [], harness := (true, "bde9cefcf44d7f956f10f1cd48f0761250524e68dde743aa6a63cd9ff9161d7e"), looks := false }, kinds := [], alts := [], laidByText := true, laidKinds := [.widerDeep], laidTests := true, laidLooks := .later }
def IsaKeptUptoCardSaid : Prop := Claim7.holds Tryd.pinned (.plain (OpenSpec.upto isaKeptSpec)) isaKeptUptoCard

/-- THE SECOND FORM's CARD OF 'spandrellaw6.EncodeEncodes'. -/
def encodeEncodesUptoCard : Claim7 := { stood := { row := encodeEncodesUptoRow, standIns := [], harness := (true, "bde9cefcf44d7f956f10f1cd48f0761250524e68dde743aa6a63cd9ff9161d7e"), looks := false }, kinds := [], alts := [], laidByText := true, laidKinds := [.widerDeep], laidTests := true, laidLooks := .later }
def EncodeEncodesUptoCardSaid : Prop := Claim7.holds Tryd.pinned (.plain (OpenSpec.upto encodeEncodesSpec)) encodeEncodesUptoCard

/-- THE SECOND FORM's CARD OF 'spandrellaw6.EncodeApart'. -/
def encodeApartUptoCard : Claim7 := { stood := { row := encodeApartUptoRow, standIns := [], harness := (true, "bde9cefcf44d7f956f10f1cd48f0761250524e68dde743aa6a63cd9ff9161d7e"), looks := false }, kinds := [], alts := [], laidByText := true, laidKinds := [.widerDeep], laidTests := true, laidLooks := .later }
def EncodeApartUptoCardSaid : Prop := Claim7.holds Tryd.pinned (.plain (OpenSpec.upto encodeApartSpec)) encodeApartUptoCard

/-- THE SECOND FORM's CARD OF 'spandrellaw6.EncodeNumbers'. -/
def encodeNumbersUptoCard : Claim7 := { stood := { row := encodeNumbersUptoRow, standIns := [], harness := (true, "bde9cefcf44d7f956f10f1cd48f0761250524e68dde743aa6a63cd9ff9161d7e"), looks := false }, kinds := [], alts := [], laidByText := true, laidKinds := [.widerDeep], laidTests := true, laidLooks := .later }
def EncodeNumbersUptoCardSaid : Prop := Claim7.holds Tryd.pinned (.plain (OpenSpec.upto encodeNumbersSpec)) encodeNumbersUptoCard

/-- THE SECOND FORM's CARD OF 'spandrellaw6.EncodeKept'. -/
def encodeKeptUptoCard : Claim7 := { stood := { row := encodeKeptUptoRow, standIns := [], harness := (true, "bde9cefcf44d7f956f10f1cd48f0761250524e68dde743aa6a63cd9ff9161d7e"), looks := false }, kinds := [], alts := [], laidByText := true, laidKinds := [.widerDeep], laidTests := true, laidLooks := .later }
def EncodeKeptUptoCardSaid : Prop := Claim7.holds Tryd.pinned (.plain (OpenSpec.upto encodeKeptSpec)) encodeKeptUptoCard

/-- THE SECOND FORM's CARD OF 'spandrellaw6.EncodeAll'. -/
def encodeAllUptoCard : Claim7 := { stood := { row := encodeAllUptoRow, standIns := [], harness := (true, "bde9cefcf44d7f956f10f1cd48f0761250524e68dde743aa6a63cd9ff9161d7e"), looks := false }, kinds := [], alts := [], laidByText := true, laidKinds := [.widerDeep], laidTests := true, laidLooks := .later }
def EncodeAllUptoCardSaid : Prop := Claim7.holds Tryd.pinned (.plain (OpenSpec.upto encodeAllSpec)) encodeAllUptoCard
end Rows
end Go.Proofs.YtfplkmldleigpaaDoor
