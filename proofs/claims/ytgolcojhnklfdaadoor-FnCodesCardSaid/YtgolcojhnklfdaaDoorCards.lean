/-
  DERIVED. GIVEN WITH THE SEED: THE CARDS: each row of YtgolcojhnklfdaaDoorRows.lean that lists a variable, with what it lists TIED to the program's text (the seventh form; the later family's looks); each row that meets fmt, with fmt's text TOLD by the authors' own Lean function (tested against real Go, not proved from fmt's source: count such statements apart). THE CARD IS WHAT COUNTS. Prove the row's statement (the work); the ties are given (YtgolcojhnklfdaaDoorTie.lean); close each card by the builder's one call (the guide's Derived/Test/ToyasCard.lean, 'card_holds'). Laid BY PROGRAM, IN A SANDBOX (cutbox-door.mjs). By AI agents, Wed Nov 11 2026. No macro, syntax, notation, axiom, sorry.
-/
import Derived.Test.YtgolcojhnklfdaaDoorRows
import GoSem.ClaimSeven
namespace Go.Proofs.YtgolcojhnklfdaaDoor
namespace Rows

/-- THE TIED CARD OF 'laws.FnExactVerifierOf'. -/
def fnExactVerifierOfCard : Claim7 := { stood := { row := fnExactVerifierOfRow, standIns := [], harness := (true, "1e6a8922366cf09168929c257155384586c207a6c69de8522cb5cc8914ef7523"), looks := false }, kinds := [], alts := [], laidByText := true, laidKinds := [.data, .data, .data], laidTests := true, laidLooks := .later }
def FnExactVerifierOfCardSaid : Prop := Claim7.holds Tryd.pinned (.plain (OpenSpec.ofChange fnExactVerifierOfSpec)) fnExactVerifierOfCard

/-- THE TIED CARD OF 'laws.FnExactCodeOf'. -/
def fnExactCodeOfCard : Claim7 := { stood := { row := fnExactCodeOfRow, standIns := [], harness := (true, "1e6a8922366cf09168929c257155384586c207a6c69de8522cb5cc8914ef7523"), looks := false }, kinds := [], alts := [], laidByText := true, laidKinds := [.data, .data, .data], laidTests := true, laidLooks := .later }
def FnExactCodeOfCardSaid : Prop := Claim7.holds Tryd.pinned (.plain (OpenSpec.ofChange fnExactCodeOfSpec)) fnExactCodeOfCard

/-- THE TIED CARD OF 'laws.FnExactCheckCode'. -/
def fnExactCheckCodeCard : Claim7 := { stood := { row := fnExactCheckCodeRow, standIns := [], harness := (true, "1e6a8922366cf09168929c257155384586c207a6c69de8522cb5cc8914ef7523"), looks := false }, kinds := [], alts := [], laidByText := true, laidKinds := [.data, .data, .data], laidTests := true, laidLooks := .later }
def FnExactCheckCodeCardSaid : Prop := Claim7.holds Tryd.pinned (.plain (OpenSpec.ofChange fnExactCheckCodeSpec)) fnExactCheckCodeCard

/-- THE TIED CARD OF 'laws.FnCodes'. -/
def fnCodesCard : Claim7 := { stood := { row := fnCodesRow, standIns := [], harness := (true, "1e6a8922366cf09168929c257155384586c207a6c69de8522cb5cc8914ef7523"), looks := false }, kinds := [], alts := [], laidByText := true, laidKinds := [.data, .data, .data], laidTests := true, laidLooks := .later }
def FnCodesCardSaid : Prop := Claim7.holds Tryd.pinned (.plain (OpenSpec.ofChange fnCodesSpec)) fnCodesCard

/-- THE TIED CARD OF 'laws.FnExactHandleOf'. -/
def fnExactHandleOfCard : Claim7 := { stood := { row := fnExactHandleOfRow, standIns := [], harness := (true, "1e6a8922366cf09168929c257155384586c207a6c69de8522cb5cc8914ef7523"), looks := false }, kinds := [], alts := [], laidByText := true, laidKinds := [.data, .data, .data], laidTests := true, laidLooks := .later }
def FnExactHandleOfCardSaid : Prop := Claim7.holds Tryd.pinned (.plain (OpenSpec.ofChange fnExactHandleOfSpec)) fnExactHandleOfCard

/-- THE SECOND FORM's CARD OF 'laws.FnExactVerifierOf'. -/
def fnExactVerifierOfUptoCard : Claim7 := { stood := { row := fnExactVerifierOfUptoRow, standIns := [], harness := (true, "1e6a8922366cf09168929c257155384586c207a6c69de8522cb5cc8914ef7523"), looks := false }, kinds := [], alts := [], laidByText := true, laidKinds := [.data, .data, .data], laidTests := true, laidLooks := .later }
def FnExactVerifierOfUptoCardSaid : Prop := Claim7.holds Tryd.pinned (.plain (OpenSpec.upto fnExactVerifierOfSpec)) fnExactVerifierOfUptoCard

/-- THE SECOND FORM's CARD OF 'laws.FnExactCodeOf'. -/
def fnExactCodeOfUptoCard : Claim7 := { stood := { row := fnExactCodeOfUptoRow, standIns := [], harness := (true, "1e6a8922366cf09168929c257155384586c207a6c69de8522cb5cc8914ef7523"), looks := false }, kinds := [], alts := [], laidByText := true, laidKinds := [.data, .data, .data], laidTests := true, laidLooks := .later }
def FnExactCodeOfUptoCardSaid : Prop := Claim7.holds Tryd.pinned (.plain (OpenSpec.upto fnExactCodeOfSpec)) fnExactCodeOfUptoCard

/-- THE SECOND FORM's CARD OF 'laws.FnExactCheckCode'. -/
def fnExactCheckCodeUptoCard : Claim7 := { stood := { row := fnExactCheckCodeUptoRow, standIns := [], harness := (true, "1e6a8922366cf09168929c257155384586c207a6c69de8522cb5cc8914ef7523"), looks := false }, kinds := [], alts := [], laidByText := true, laidKinds := [.data, .data, .data], laidTests := true, laidLooks := .later }
def FnExactCheckCodeUptoCardSaid : Prop := Claim7.holds Tryd.pinned (.plain (OpenSpec.upto fnExactCheckCodeSpec)) fnExactCheckCodeUptoCard

/-- THE SECOND FORM's CARD OF 'laws.FnCodes'. -/
def fnCodesUptoCard : Claim7 := { stood := { row := fnCodesUptoRow, standIns := [], harness := (true, "1e6a8922366cf09168929c257155384586c207a6c69de8522cb5cc8914ef7523"), looks := false }, kinds := [], alts := [], laidByText := true, laidKinds := [.data, .data, .data], laidTests := true, laidLooks := .later }
def FnCodesUptoCardSaid : Prop := Claim7.holds Tryd.pinned (.plain (OpenSpec.upto fnCodesSpec)) fnCodesUptoCard

/-- THE SECOND FORM's CARD OF 'laws.FnExactHandleOf'. -/
def fnExactHandleOfUptoCard : Claim7 := { stood := { row := fnExactHandleOfUptoRow, standIns := [], harness := (true, "1e6a8922366cf09168929c257155384586c207a6c69de8522cb5cc8914ef7523"), looks := false }, kinds := [], alts := [], laidByText := true, laidKinds := [.data, .data, .data], laidTests := true, laidLooks := .later }
def FnExactHandleOfUptoCardSaid : Prop := Claim7.holds Tryd.pinned (.plain (OpenSpec.upto fnExactHandleOfSpec)) fnExactHandleOfUptoCard
end Rows
end Go.Proofs.YtgolcojhnklfdaaDoor
