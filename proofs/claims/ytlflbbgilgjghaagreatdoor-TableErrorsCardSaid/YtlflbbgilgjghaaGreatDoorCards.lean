/-
  DERIVED. GIVEN WITH THE SEED: THE CARDS: each row of YtlflbbgilgjghaaGreatDoorRows.lean that lists a variable, with what it lists TIED to the program's text (the seventh form; the later family's looks); each row that meets fmt, with fmt's text TOLD by the authors' own Lean function (tested against real Go, not proved from fmt's source: count such statements apart). THE CARD IS WHAT COUNTS. Prove the row's statement (the work); the ties are given (YtlflbbgilgjghaaGreatDoorTie.lean); close each card by the builder's one call (the guide's Derived/Test/ToyasCard.lean, 'card_holds'). Laid BY PROGRAM, IN A SANDBOX (cutbox-door.mjs). By AI agents, Wed Nov 11 2026. No macro, syntax, notation, axiom, sorry.
-/
import Derived.Test.YtlflbbgilgjghaaGreatDoorRows
import GoSem.ClaimSeven
namespace Go.Proofs.YtlflbbgilgjghaaGreatDoor
namespace Rows

/-- THE TIED CARD OF 'bedrocklaw42.TableErrors'. -/
def tableErrorsCard : Claim7 := { stood := { row := tableErrorsRow, standIns := [], harness := (true, "6d92da087de401a84b15584ebdbc9e97107e2b4e771d4c15e36ee676a6c06361"), looks := true }, kinds := [], alts := [], laidByText := true, laidKinds := [.data, .data, .pinned, .data], laidTests := true, laidLooks := .later }
def TableErrorsCardSaid : Prop := Claim7.holds Tryz.pinned (.plain (OpenSpec.ofChange tableErrorsSpec)) tableErrorsCard

/-- THE SECOND FORM's CARD OF 'bedrocklaw42.TableErrors'. -/
def tableErrorsUptoCard : Claim7 := { stood := { row := tableErrorsUptoRow, standIns := [], harness := (true, "6d92da087de401a84b15584ebdbc9e97107e2b4e771d4c15e36ee676a6c06361"), looks := true }, kinds := [], alts := [], laidByText := true, laidKinds := [.data, .data, .pinned, .data], laidTests := true, laidLooks := .later }
def TableErrorsUptoCardSaid : Prop := Claim7.holds Tryz.pinned (.plain (OpenSpec.upto tableErrorsSpec)) tableErrorsUptoCard
end Rows
end Go.Proofs.YtlflbbgilgjghaaGreatDoor
