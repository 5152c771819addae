/-
  DERIVED. GIVEN WITH THE SEED: THE CARDS: each row of YthcjnkakfpmpbaaDoorRows.lean that lists a variable, with what it lists TIED to the program's text (the seventh form; the later family's looks); each row that meets fmt, with fmt's text TOLD by the authors' own Lean function (tested against real Go, not proved from fmt's source: count such statements apart). THE CARD IS WHAT COUNTS. Prove the row's statement (the work); the ties are given (YthcjnkakfpmpbaaDoorTie.lean); close each card by the builder's one call (the guide's Derived/Test/ToyasCard.lean, 'card_holds'). Laid BY PROGRAM, IN A SANDBOX (cutbox-door.mjs). By AI agents, Wed Nov 11 2026. No macro, syntax, notation, axiom, sorry.
-/
import Derived.Test.YthcjnkakfpmpbaaDoorRows
import GoSem.ClaimSeven
namespace Go.Proofs.YthcjnkakfpmpbaaDoor
namespace Rows

/-- THE TIED CARD OF 'spandrellaw7.DecodeDecodes'. -/
def decodeDecodesCard : Claim7 := { stood := { row := decodeDecodesRow, standIns := [], harness := (true, "2735f9c0e52826031322152aa1624dcfdc867ed371956cb9a91d74e050e11671"), looks := false }, kinds := [], alts := [], laidByText := true, laidKinds := [.widerDeep], laidTests := true, laidLooks := .later }
def DecodeDecodesCardSaid : Prop := Claim7.holds Tryd.pinned (.plain (OpenSpec.ofChange decodeDecodesSpec)) decodeDecodesCard

/-- THE TIED CARD OF 'spandrellaw7.DecodeNumbers'. -/
def decodeNumbersCard : Claim7 := { stood := { row := decodeNumbersRow, standIns := [], harness := (true, "2735f9c0e52826031322152aa1624dcfdc867ed371956cb9a91d74e050e11671"), looks := false }, kinds := [], alts := [], laidByText := true, laidKinds := [.widerDeep], laidTests := true, laidLooks := .later }
def DecodeNumbersCardSaid : Prop := Claim7.holds Tryd.pinned (.plain (OpenSpec.ofChange decodeNumbersSpec)) decodeNumbersCard

/-- THE TIED CARD OF 'spandrellaw7.DecodeAll'. -/
def decodeAllCard : Claim7 := { stood := { row := decodeAllRow, standIns := [], harness := (true, "2735f9c0e52826031322152aa1624dcfdc867ed371956cb9a91d74e050e11671"), looks := false }, kinds := [], alts := [], laidByText := true, laidKinds := [.widerDeep], laidTests := true, laidLooks := .later }
def DecodeAllCardSaid : Prop := Claim7.holds Tryd.pinned (.plain (OpenSpec.ofChange decodeAllSpec)) decodeAllCard

/-- THE TIED CARD OF 'spandrellaw7.DecodeBack'. -/
def decodeBackCard : Claim7 := { stood := { row := decodeBackRow, standIns := [], harness := (true, "2735f9c0e52826031322152aa1624dcfdc867ed371956cb9a91d74e050e11671"), looks := false }, kinds := [], alts := [], laidByText := true, laidKinds := [.widerDeep], laidTests := true, laidLooks := .later }
def DecodeBackCardSaid : Prop := Claim7.holds Tryd.pinned (.plain (OpenSpec.ofChange decodeBackSpec)) decodeBackCard

/-- THE TIED CARD OF 'spandrellaw7.DecodeRow'. -/
def decodeRowCard : Claim7 := { stood := { row := decodeRowRow, standIns := [], harness := (true, "2735f9c0e52826031322152aa1624dcfdc867ed371956cb9a91d74e050e11671"), looks := false }, kinds := [], alts := [], laidByText := true, laidKinds := [.widerDeep], laidTests := true, laidLooks := .later }
def DecodeRowCardSaid : Prop := Claim7.holds Tryd.pinned (.plain (OpenSpec.ofChange decodeRowSpec)) decodeRowCard

/-- THE TIED CARD OF 'spandrellaw18.CpuRing'. -/
def cpuRingCard : Claim7 := { stood := { row := cpuRingRow, standIns := [], harness := (true, "2735f9c0e52826031322152aa1624dcfdc867ed371956cb9a91d74e050e11671"), looks := false }, kinds := [], alts := [], laidByText := true, laidKinds := [.widerDeep], laidTests := true, laidLooks := .later }
def CpuRingCardSaid : Prop := Claim7.holds Tryd.pinned (.plain (OpenSpec.ofChange cpuRingSpec)) cpuRingCard

/-- THE TIED CARD OF 'spandrellaw18.CpuDivides'. -/
def cpuDividesCard : Claim7 := { stood := { row := cpuDividesRow, standIns := [], harness := (true, "2735f9c0e52826031322152aa1624dcfdc867ed371956cb9a91d74e050e11671"), looks := false }, kinds := [], alts := [], laidByText := true, laidKinds := [.widerDeep], laidTests := true, laidLooks := .later }
def CpuDividesCardSaid : Prop := Claim7.holds Tryd.pinned (.plain (OpenSpec.ofChange cpuDividesSpec)) cpuDividesCard

/-- THE TIED CARD OF 'spandrellaw18.CpuGauss'. -/
def cpuGaussCard : Claim7 := { stood := { row := cpuGaussRow, standIns := [], harness := (true, "2735f9c0e52826031322152aa1624dcfdc867ed371956cb9a91d74e050e11671"), looks := false }, kinds := [], alts := [], laidByText := true, laidKinds := [.widerDeep], laidTests := true, laidLooks := .later }
def CpuGaussCardSaid : Prop := Claim7.holds Tryd.pinned (.plain (OpenSpec.ofChange cpuGaussSpec)) cpuGaussCard

/-- THE TIED CARD OF 'spandrellaw18.CpuKept'. -/
def cpuKeptCard : Claim7 := { stood := { row := cpuKeptRow, standIns := [], harness := (true, "2735f9c0e52826031322152aa1624dcfdc867ed371956cb9a91d74e050e11671"), looks := false }, kinds := [], alts := [], laidByText := true, laidKinds := [.widerDeep], laidTests := true, laidLooks := .later }
def CpuKeptCardSaid : Prop := Claim7.holds Tryd.pinned (.plain (OpenSpec.ofChange cpuKeptSpec)) cpuKeptCard

/-- THE TIED CARD OF 'spandrellaw18.CpuNumbers'. -/
def cpuNumbersCard : Claim7 := { stood := { row := cpuNumbersRow, standIns := [], harness := (true, "2735f9c0e52826031322152aa1624dcfdc867ed371956cb9a91d74e050e11671"), looks := false }, kinds := [], alts := [], laidByText := true, laidKinds := [.widerDeep], laidTests := true, laidLooks := .later }
def CpuNumbersCardSaid : Prop := Claim7.holds Tryd.pinned (.plain (OpenSpec.ofChange cpuNumbersSpec)) cpuNumbersCard

/-- THE TIED CARD OF 'spandrellaw18.CpuFull'. -/
def cpuFullCard : Claim7 := { stood := { row := cpuFullRow, standIns := [], harness := (true, "2735f9c0e52826031322152aa1624dcfdc867ed371956cb9a91d74e050e11671"), looks := false }, kinds := [], alts := [], laidByText := true, laidKinds := [.widerDeep], laidTests := true, laidLooks := .later }
def CpuFullCardSaid : Prop := Claim7.holds Tryd.pinned (.plain (OpenSpec.ofChange cpuFullSpec)) cpuFullCard

/-- THE TIED CARD OF 'spandrellaw18.CpuPlays'. -/
def cpuPlaysCard : Claim7 := { stood := { row := cpuPlaysRow, standIns := [], harness := (true, "2735f9c0e52826031322152aa1624dcfdc867ed371956cb9a91d74e050e11671"), looks := false }, kinds := [], alts := [], laidByText := true, laidKinds := [.widerDeep], laidTests := true, laidLooks := .later }
def CpuPlaysCardSaid : Prop := Claim7.holds Tryd.pinned (.plain (OpenSpec.ofChange cpuPlaysSpec)) cpuPlaysCard

/-- THE SECOND FORM's CARD OF 'spandrellaw7.DecodeDecodes'. -/
def decodeDecodesUptoCard : Claim7 := { stood := { row := decodeDecodesUptoRow, standIns := [], harness := (true, "2735f9c0e52826031322152aa1624dcfdc867ed371956cb9a91d74e050e11671"), looks := false }, kinds := [], alts := [], laidByText := true, laidKinds := [.widerDeep], laidTests := true, laidLooks := .later }
def DecodeDecodesUptoCardSaid : Prop := Claim7.holds Tryd.pinned (.plain (OpenSpec.upto decodeDecodesSpec)) decodeDecodesUptoCard

/-- THE SECOND FORM's CARD OF 'spandrellaw7.DecodeNumbers'. -/
def decodeNumbersUptoCard : Claim7 := { stood := { row := decodeNumbersUptoRow, standIns := [], harness := (true, "2735f9c0e52826031322152aa1624dcfdc867ed371956cb9a91d74e050e11671"), looks := false }, kinds := [], alts := [], laidByText := true, laidKinds := [.widerDeep], laidTests := true, laidLooks := .later }
def DecodeNumbersUptoCardSaid : Prop := Claim7.holds Tryd.pinned (.plain (OpenSpec.upto decodeNumbersSpec)) decodeNumbersUptoCard

/-- THE SECOND FORM's CARD OF 'spandrellaw7.DecodeAll'. -/
def decodeAllUptoCard : Claim7 := { stood := { row := decodeAllUptoRow, standIns := [], harness := (true, "2735f9c0e52826031322152aa1624dcfdc867ed371956cb9a91d74e050e11671"), looks := false }, kinds := [], alts := [], laidByText := true, laidKinds := [.widerDeep], laidTests := true, laidLooks := .later }
def DecodeAllUptoCardSaid : Prop := Claim7.holds Tryd.pinned (.plain (OpenSpec.upto decodeAllSpec)) decodeAllUptoCard

/-- THE SECOND FORM's CARD OF 'spandrellaw7.DecodeBack'. -/
def decodeBackUptoCard : Claim7 := { stood := { row := decodeBackUptoRow, standIns := [], harness := (true, "2735f9c0e52826031322152aa1624dcfdc867ed371956cb9a91d74e050e11671"), looks := false }, kinds := [], alts := [], laidByText := true, laidKinds := [.widerDeep], laidTests := true, laidLooks := .later }
def DecodeBackUptoCardSaid : Prop := Claim7.holds Tryd.pinned (.plain (OpenSpec.upto decodeBackSpec)) decodeBackUptoCard

/-- THE SECOND FORM's CARD OF 'spandrellaw7.DecodeRow'. -/
def decodeRowUptoCard : Claim7 := { stood := { row := decodeRowUptoRow, standIns := [], harness := (true, "2735f9c0e52826031322152aa1624dcfdc867ed371956cb9a91d74e050e11671"), looks := false }, kinds := [], alts := [], laidByText := true, laidKinds := [.widerDeep], laidTests := true, laidLooks := .later }
def DecodeRowUptoCardSaid : Prop := Claim7.holds Tryd.pinned (.plain (OpenSpec.upto decodeRowSpec)) decodeRowUptoCard

/-- THE SECOND FORM's CARD OF 'spandrellaw18.CpuRing'. -/
def cpuRingUptoCard : Claim7 := { stood := { row := cpuRingUptoRow, standIns := [], harness := (true, "2735f9c0e52826031322152aa1624dcfdc867ed371956cb9a91d74e050e11671"), looks := false }, kinds := [], alts := [], laidByText := true, laidKinds := [.widerDeep], laidTests := true, laidLooks := .later }
def CpuRingUptoCardSaid : Prop := Claim7.holds Tryd.pinned (.plain (OpenSpec.upto cpuRingSpec)) cpuRingUptoCard

/-- THE SECOND FORM's CARD OF 'spandrellaw18.CpuDivides'. -/
def cpuDividesUptoCard : Claim7 := { stood := { row := cpuDividesUptoRow, standIns := [], harness := (true, "2735f9c0e52826031322152aa1624dcfdc867ed371956cb9a91d74e050e11671"), looks := false }, kinds := [], alts := [], laidByText := true, laidKinds := [.widerDeep], laidTests := true, laidLooks := .later }
def CpuDividesUptoCardSaid : Prop := Claim7.holds Tryd.pinned (.plain (OpenSpec.upto cpuDividesSpec)) cpuDividesUptoCard

/-- THE SECOND FORM's CARD OF 'spandrellaw18.CpuGauss'. -/
def cpuGaussUptoCard : Claim7 := { stood := { row := cpuGaussUptoRow, standIns := [], harness := (true, "2735f9c0e52826031322152aa1624dcfdc867ed371956cb9a91d74e050e11671"), looks := false }, kinds := [], alts := [], laidByText := true, laidKinds := [.widerDeep], laidTests := true, laidLooks := .later }
def CpuGaussUptoCardSaid : Prop := Claim7.holds Tryd.pinned (.plain (OpenSpec.upto cpuGaussSpec)) cpuGaussUptoCard

/-- THE SECOND FORM's CARD OF 'spandrellaw18.CpuKept'. -/
def cpuKeptUptoCard : Claim7 := { stood := { row := cpuKeptUptoRow, standIns := [], harness := (true, "2735f9c0e52826031322152aa1624dcfdc867ed371956cb9a91d74e050e11671"), looks := false }, kinds := [], alts := [], laidByText := true, laidKinds := [.widerDeep], laidTests := true, laidLooks := .later }
def CpuKeptUptoCardSaid : Prop := Claim7.holds Tryd.pinned (.plain (OpenSpec.upto cpuKeptSpec)) cpuKeptUptoCard

/-- THE SECOND FORM's CARD OF 'spandrellaw18.CpuNumbers'. -/
def cpuNumbersUptoCard : Claim7 := { stood := { row := cpuNumbersUptoRow, standIns := [], harness := (true, "2735f9c0e52826031322152aa1624dcfdc867ed371956cb9a91d74e050e11671"), looks := false }, kinds := [], alts := [], laidByText := true, laidKinds := [.widerDeep], laidTests := true, laidLooks := .later }
def CpuNumbersUptoCardSaid : Prop := Claim7.holds Tryd.pinned (.plain (OpenSpec.upto cpuNumbersSpec)) cpuNumbersUptoCard

/-- THE SECOND FORM's CARD OF 'spandrellaw18.CpuFull'. -/
def cpuFullUptoCard : Claim7 := { stood := { row := cpuFullUptoRow, standIns := [], harness := (true, "2735f9c0e52826031322152aa1624dcfdc867ed371956cb9a91d74e050e11671"), looks := false }, kinds := [], alts := [], laidByText := true, laidKinds := [.widerDeep], laidTests := true, laidLooks := .later }
def CpuFullUptoCardSaid : Prop := Claim7.holds Tryd.pinned (.plain (OpenSpec.upto cpuFullSpec)) cpuFullUptoCard

/-- THE SECOND FORM's CARD OF 'spandrellaw18.CpuPlays'. -/
def cpuPlaysUptoCard : Claim7 := { stood := { row := cpuPlaysUptoRow, standIns := [], harness := (true, "2735f9c0e52826031322152aa1624dcfdc867ed371956cb9a91d74e050e11671"), looks := false }, kinds := [], alts := [], laidByText := true, laidKinds := [.widerDeep], laidTests := true, laidLooks := .later }
def CpuPlaysUptoCardSaid : Prop := Claim7.holds Tryd.pinned (.plain (OpenSpec.upto cpuPlaysSpec)) cpuPlaysUptoCard
end Rows
end Go.Proofs.YthcjnkakfpmpbaaDoor
