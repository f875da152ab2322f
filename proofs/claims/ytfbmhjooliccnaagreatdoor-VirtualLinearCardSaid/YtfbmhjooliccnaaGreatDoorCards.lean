/-
  DERIVED. GIVEN WITH THE SEED: THE CARDS: each row of YtfbmhjooliccnaaGreatDoorRows.lean that lists a variable, with what it lists TIED to the program's text (the seventh form; the later family's looks); each row that meets fmt, with fmt's text TOLD by the authors' own Lean function (tested against real Go, not proved from fmt's source: count such statements apart). THE CARD IS WHAT COUNTS. Prove the row's statement (the work); the ties are given (YtfbmhjooliccnaaGreatDoorTie.lean); close each card by the builder's one call (the guide's Derived/Test/ToyasCard.lean, 'card_holds'). Laid BY PROGRAM, IN A SANDBOX (cutbox-door.mjs). By AI agents, Wed Nov 11 2026. No macro, syntax, notation, axiom, sorry.
-/
import Derived.Test.YtfbmhjooliccnaaGreatDoorRows
import GoSem.ClaimSeven
namespace Go.Proofs.YtfbmhjooliccnaaGreatDoor
namespace Rows

/-- THE TIED CARD OF 'cylinderlaw53.VirtualWitness'. -/
def virtualWitnessCard : Claim7 := { stood := { row := virtualWitnessRow, standIns := [], harness := (true, "ffe9ceefb557b52154a28d4dc554f870c58cc5083fb02db3ba38105c270fb25b"), looks := false }, kinds := [], alts := [], laidByText := true, laidKinds := [.data, .data, .data], laidTests := true, laidLooks := .later }
def VirtualWitnessCardSaid : Prop := Claim7.holds Tryz.pinned (.plain (OpenSpec.ofChange virtualWitnessSpec)) virtualWitnessCard

/-- THE TIED CARD OF 'cylinderlaw53.VirtualArgs'. -/
def virtualArgsCard : Claim7 := { stood := { row := virtualArgsRow, standIns := [], harness := (true, "ffe9ceefb557b52154a28d4dc554f870c58cc5083fb02db3ba38105c270fb25b"), looks := false }, kinds := [], alts := [], laidByText := true, laidKinds := [.data, .data, .data], laidTests := true, laidLooks := .later }
def VirtualArgsCardSaid : Prop := Claim7.holds Tryz.pinned (.plain (OpenSpec.ofChange virtualArgsSpec)) virtualArgsCard

/-- THE TIED CARD OF 'cylinderlaw53.VirtualLinear'. -/
def virtualLinearCard : Claim7 := { stood := { row := virtualLinearRow, standIns := [], harness := (true, "ffe9ceefb557b52154a28d4dc554f870c58cc5083fb02db3ba38105c270fb25b"), looks := false }, kinds := [], alts := [], laidByText := true, laidKinds := [.data, .data, .data], laidTests := true, laidLooks := .later }
def VirtualLinearCardSaid : Prop := Claim7.holds Tryz.pinned (.plain (OpenSpec.ofChange virtualLinearSpec)) virtualLinearCard

/-- THE TIED CARD OF 'cylinderlaw53.VirtualExists'. -/
def virtualExistsCard : Claim7 := { stood := { row := virtualExistsRow, standIns := [], harness := (true, "ffe9ceefb557b52154a28d4dc554f870c58cc5083fb02db3ba38105c270fb25b"), looks := false }, kinds := [], alts := [], laidByText := true, laidKinds := [.data, .data, .data], laidTests := true, laidLooks := .later }
def VirtualExistsCardSaid : Prop := Claim7.holds Tryz.pinned (.plain (OpenSpec.ofChange virtualExistsSpec)) virtualExistsCard

/-- THE TIED CARD OF 'cylinderlaw53.VirtualForall'. -/
def virtualForallCard : Claim7 := { stood := { row := virtualForallRow, standIns := [], harness := (true, "ffe9ceefb557b52154a28d4dc554f870c58cc5083fb02db3ba38105c270fb25b"), looks := false }, kinds := [], alts := [], laidByText := true, laidKinds := [.data, .data, .data], laidTests := true, laidLooks := .later }
def VirtualForallCardSaid : Prop := Claim7.holds Tryz.pinned (.plain (OpenSpec.ofChange virtualForallSpec)) virtualForallCard

/-- THE SECOND FORM's CARD OF 'cylinderlaw53.VirtualWitness'. -/
def virtualWitnessUptoCard : Claim7 := { stood := { row := virtualWitnessUptoRow, standIns := [], harness := (true, "ffe9ceefb557b52154a28d4dc554f870c58cc5083fb02db3ba38105c270fb25b"), looks := false }, kinds := [], alts := [], laidByText := true, laidKinds := [.data, .data, .data], laidTests := true, laidLooks := .later }
def VirtualWitnessUptoCardSaid : Prop := Claim7.holds Tryz.pinned (.plain (OpenSpec.upto virtualWitnessSpec)) virtualWitnessUptoCard

/-- THE SECOND FORM's CARD OF 'cylinderlaw53.VirtualArgs'. -/
def virtualArgsUptoCard : Claim7 := { stood := { row := virtualArgsUptoRow, standIns := [], harness := (true, "ffe9ceefb557b52154a28d4dc554f870c58cc5083fb02db3ba38105c270fb25b"), looks := false }, kinds := [], alts := [], laidByText := true, laidKinds := [.data, .data, .data], laidTests := true, laidLooks := .later }
def VirtualArgsUptoCardSaid : Prop := Claim7.holds Tryz.pinned (.plain (OpenSpec.upto virtualArgsSpec)) virtualArgsUptoCard

/-- THE SECOND FORM's CARD OF 'cylinderlaw53.VirtualLinear'. -/
def virtualLinearUptoCard : Claim7 := { stood := { row := virtualLinearUptoRow, standIns := [], harness := (true, "ffe9ceefb557b52154a28d4dc554f870c58cc5083fb02db3ba38105c270fb25b"), looks := false }, kinds := [], alts := [], laidByText := true, laidKinds := [.data, .data, .data], laidTests := true, laidLooks := .later }
def VirtualLinearUptoCardSaid : Prop := Claim7.holds Tryz.pinned (.plain (OpenSpec.upto virtualLinearSpec)) virtualLinearUptoCard

/-- THE SECOND FORM's CARD OF 'cylinderlaw53.VirtualExists'. -/
def virtualExistsUptoCard : Claim7 := { stood := { row := virtualExistsUptoRow, standIns := [], harness := (true, "ffe9ceefb557b52154a28d4dc554f870c58cc5083fb02db3ba38105c270fb25b"), looks := false }, kinds := [], alts := [], laidByText := true, laidKinds := [.data, .data, .data], laidTests := true, laidLooks := .later }
def VirtualExistsUptoCardSaid : Prop := Claim7.holds Tryz.pinned (.plain (OpenSpec.upto virtualExistsSpec)) virtualExistsUptoCard

/-- THE SECOND FORM's CARD OF 'cylinderlaw53.VirtualForall'. -/
def virtualForallUptoCard : Claim7 := { stood := { row := virtualForallUptoRow, standIns := [], harness := (true, "ffe9ceefb557b52154a28d4dc554f870c58cc5083fb02db3ba38105c270fb25b"), looks := false }, kinds := [], alts := [], laidByText := true, laidKinds := [.data, .data, .data], laidTests := true, laidLooks := .later }
def VirtualForallUptoCardSaid : Prop := Claim7.holds Tryz.pinned (.plain (OpenSpec.upto virtualForallSpec)) virtualForallUptoCard
end Rows
end Go.Proofs.YtfbmhjooliccnaaGreatDoor
