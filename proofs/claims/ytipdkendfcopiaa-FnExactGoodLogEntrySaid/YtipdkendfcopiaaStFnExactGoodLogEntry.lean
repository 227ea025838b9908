/- The pure statement of the law FnExactGoodLogEntry. -/
import Derived.Test.YtipdkendfcopiaaRead
import Derived.Test.YtipdkendfcopiaaPr3
namespace Go.Proofs.Ytipdkendfcopiaa.Pr
open Go.RowKit Go.Proofs.Ytipdkendfcopiaa.Read Go.Proofs.YtipdkendfcopiaaW.PrintWords
set_option linter.unusedVariables false
/-- What is left of the law FnExactGoodLogEntry: a statement about numbers and lists. -/
def laws_FnExactGoodLogEntry.Pure : Prop := ∀ (a0_0 : Int) (a0_1 : ByteArray) (a0_2 : ByteArray) (l0_3 : (List Int)) (l0_4 : (List Int)), okI a0_0 → okS a0_1 → okS a0_2 → (okL okB) l0_3 → (okL okB) l0_4 → ∃ k, laws_FnExactGoodLogEntry.f k a0_0 a0_1 a0_2 l0_3 l0_4 = some true
end Go.Proofs.Ytipdkendfcopiaa.Pr
