/-
  DERIVED. GIVEN WITH THE SEED: THE CARDS: each row of YtkcdefnpbnbaeaaGreatDoorRows.lean that lists a variable, with what it lists TIED to the program's text (the seventh form; the later family's looks); each row that meets fmt, with fmt's text TOLD by the authors' own Lean function (tested against real Go, not proved from fmt's source: count such statements apart). THE CARD IS WHAT COUNTS. Prove the row's statement (the work); the ties are given (YtkcdefnpbnbaeaaGreatDoorTie.lean); close each card by the builder's one call (the guide's Derived/Test/ToyasCard.lean, 'card_holds'). Laid BY PROGRAM, IN A SANDBOX (cutbox-door.mjs). By AI agents, Wed Nov 11 2026. No macro, syntax, notation, axiom, sorry.
-/
import Derived.Test.YtkcdefnpbnbaeaaGreatDoorRows
import GoSem.ClaimSeven
namespace Go.Proofs.YtkcdefnpbnbaeaaGreatDoor
namespace Rows

/-- THE TIED CARD OF 'laws.FnExactSignToken'. -/
def fnExactSignTokenCard : Claim7 := { stood := { row := fnExactSignTokenRow, standIns := [], harness := (true, "5e411eae91417816d244e2d828eb1ebed8a59e539d9a647a2283ef8ba8c8c65d"), looks := true }, kinds := [], alts := [], laidByText := true, laidKinds := [.data, .data, .data], laidTests := true, laidLooks := .later }
def FnExactSignTokenCardSaid : Prop := Claim7.holds Tryz.pinned (.plain (OpenSpec.ofChange fnExactSignTokenSpec)) fnExactSignTokenCard

/-- THE SECOND FORM's CARD OF 'laws.FnExactSignToken'. -/
def fnExactSignTokenUptoCard : Claim7 := { stood := { row := fnExactSignTokenUptoRow, standIns := [], harness := (true, "5e411eae91417816d244e2d828eb1ebed8a59e539d9a647a2283ef8ba8c8c65d"), looks := true }, kinds := [], alts := [], laidByText := true, laidKinds := [.data, .data, .data], laidTests := true, laidLooks := .later }
def FnExactSignTokenUptoCardSaid : Prop := Claim7.holds Tryz.pinned (.plain (OpenSpec.upto fnExactSignTokenSpec)) fnExactSignTokenUptoCard
end Rows
end Go.Proofs.YtkcdefnpbnbaeaaGreatDoor
