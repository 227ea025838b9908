/-
  DERIVED. GIVEN WITH THE SEED: THE CARDS: each row of YtnbbbjfjkhglhaaGreatDoorRows.lean that lists a variable, with what it lists TIED to the program's text (the seventh form; the later family's looks); each row that meets fmt, with fmt's text TOLD by the authors' own Lean function (tested against real Go, not proved from fmt's source: count such statements apart). THE CARD IS WHAT COUNTS. Prove the row's statement (the work); the ties are given (YtnbbbjfjkhglhaaGreatDoorTie.lean); close each card by the builder's one call (the guide's Derived/Test/ToyasCard.lean, 'card_holds'). Laid BY PROGRAM, IN A SANDBOX (cutbox-door.mjs). By AI agents, Wed Nov 11 2026. No macro, syntax, notation, axiom, sorry.
-/
import Derived.Test.YtnbbbjfjkhglhaaGreatDoorRows
import GoSem.ClaimSeven
namespace Go.Proofs.YtnbbbjfjkhglhaaGreatDoor
namespace Rows

/-- THE TIED CARD OF 'laws.FnExactTermText'. -/
def fnExactTermTextCard : Claim7 := { stood := { row := fnExactTermTextRow, standIns := [], harness := (true, "e76814c29f84dc0503eca739d862b5251f16267a6e53cac6adbafa9274c78e8d"), looks := true }, kinds := [], alts := [], laidByText := true, laidKinds := [.data, .data, .data, .widerDeep], laidTests := true, laidLooks := .later }
def FnExactTermTextCardSaid : Prop := Claim7.holds Tryz.pinned (.plain (OpenSpec.ofChange fnExactTermTextSpec)) fnExactTermTextCard

/-- THE TIED CARD OF 'laws.FnExactCapText'. -/
def fnExactCapTextCard : Claim7 := { stood := { row := fnExactCapTextRow, standIns := [], harness := (true, "e76814c29f84dc0503eca739d862b5251f16267a6e53cac6adbafa9274c78e8d"), looks := true }, kinds := [], alts := [], laidByText := true, laidKinds := [.data, .data, .data, .widerDeep], laidTests := true, laidLooks := .later }
def FnExactCapTextCardSaid : Prop := Claim7.holds Tryz.pinned (.plain (OpenSpec.ofChange fnExactCapTextSpec)) fnExactCapTextCard

/-- THE TIED CARD OF 'laws.FnExactAttenuate'. -/
def fnExactAttenuateCard : Claim7 := { stood := { row := fnExactAttenuateRow, standIns := [], harness := (true, "e76814c29f84dc0503eca739d862b5251f16267a6e53cac6adbafa9274c78e8d"), looks := true }, kinds := [], alts := [], laidByText := true, laidKinds := [.data, .data, .data, .widerDeep], laidTests := true, laidLooks := .later }
def FnExactAttenuateCardSaid : Prop := Claim7.holds Tryz.pinned (.plain (OpenSpec.ofChange fnExactAttenuateSpec)) fnExactAttenuateCard

/-- THE SECOND FORM's CARD OF 'laws.FnExactTermText'. -/
def fnExactTermTextUptoCard : Claim7 := { stood := { row := fnExactTermTextUptoRow, standIns := [], harness := (true, "e76814c29f84dc0503eca739d862b5251f16267a6e53cac6adbafa9274c78e8d"), looks := true }, kinds := [], alts := [], laidByText := true, laidKinds := [.data, .data, .data, .widerDeep], laidTests := true, laidLooks := .later }
def FnExactTermTextUptoCardSaid : Prop := Claim7.holds Tryz.pinned (.plain (OpenSpec.upto fnExactTermTextSpec)) fnExactTermTextUptoCard

/-- THE SECOND FORM's CARD OF 'laws.FnExactCapText'. -/
def fnExactCapTextUptoCard : Claim7 := { stood := { row := fnExactCapTextUptoRow, standIns := [], harness := (true, "e76814c29f84dc0503eca739d862b5251f16267a6e53cac6adbafa9274c78e8d"), looks := true }, kinds := [], alts := [], laidByText := true, laidKinds := [.data, .data, .data, .widerDeep], laidTests := true, laidLooks := .later }
def FnExactCapTextUptoCardSaid : Prop := Claim7.holds Tryz.pinned (.plain (OpenSpec.upto fnExactCapTextSpec)) fnExactCapTextUptoCard

/-- THE SECOND FORM's CARD OF 'laws.FnExactAttenuate'. -/
def fnExactAttenuateUptoCard : Claim7 := { stood := { row := fnExactAttenuateUptoRow, standIns := [], harness := (true, "e76814c29f84dc0503eca739d862b5251f16267a6e53cac6adbafa9274c78e8d"), looks := true }, kinds := [], alts := [], laidByText := true, laidKinds := [.data, .data, .data, .widerDeep], laidTests := true, laidLooks := .later }
def FnExactAttenuateUptoCardSaid : Prop := Claim7.holds Tryz.pinned (.plain (OpenSpec.upto fnExactAttenuateSpec)) fnExactAttenuateUptoCard
end Rows
end Go.Proofs.YtnbbbjfjkhglhaaGreatDoor
