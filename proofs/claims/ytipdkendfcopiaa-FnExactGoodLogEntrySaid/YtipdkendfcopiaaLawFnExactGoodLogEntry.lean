/- The law FnExactGoodLogEntry: whatever the input, the call returns true and the arguments read as before. No conditions. -/
import Derived.Test.YtipdkendfcopiaaRows
import Derived.Test.YtipdkendfcopiaaStFnExactGoodLogEntry
import Derived.Test.YtipdkendfcopiaaPureFnExactGoodLogEntry
import Derived.WalkKit
import Derived.ProofKit
import Derived.OpenShut
import Derived.ShutString
import Derived.ChangeOld
import Derived.Below
namespace Go.Proofs.Ytipdkendfcopiaa.fnExactGoodLogEntry
open Go.ChangeShapes Go.WideShapes Go.ChangeAt Go.RowKit Go.Proofs.Ytipdkendfcopiaa.Read Go.Proofs.YtipdkendfcopiaaW.PrintWords Go.Proofs.Ytipdkendfcopiaa.Pr
open Go.ChangeMaps (open_string shut_string)
set_option linter.unusedVariables false
theorem own : ownKnob Try.prog.godebug = none := by kernel_rfl
theorem laidOut : laidOutB Try.prog = true := by kernel_rfl
set_option maxRecDepth 100000 in
theorem lifted (os : Os) (started : os.Started) (H : Type) (enc : TypeId × Value → H) :
    ReturnsInHanded {} Try.checked os 3 .any (Rows.fnExactGoodLogEntrySpec.pre6 enc Try.prog Try.f3 Rows.fnExactGoodLogEntryRow.domain false) (Rows.fnExactGoodLogEntrySpec.post enc Try.prog Try.f3 false true false false) := by
  refine returnsInHanded_of_change (C := Try.checked) own started (by kernel_rfl) Try.func3
    (ChangeSpec.witness6 (enc := enc) (C := Try.checked) false ⟨#[], #[.agg #[.int .i64 0, .string ByteArray.empty, .string ByteArray.empty, .slice none 0 0, .slice none 0 0]], []⟩ 8 (by kernel_rfl) (by kernel_rfl) (by kernel_rfl) (by kernel_rfl)) ?_
  intro W base args ds gs before hval0 hW hcnd _
  have hval : ∀ (j : Nat) t v, Try.f3.params[j]? = some t → args[j]? = some v → Value.okWide Try.prog W .any base t v := hval0
  have hW' := hW
  obtain ⟨p, q, hA0, hV, rfl, hfz, hnd⟩ := hW
  have hA : DataW.TrodAll enc Try.prog W 0 (fun _ => true) true Try.f3.params.toList args.toList ds p := hA0
  rw [Try.params3] at hA hval
  obtain ⟨v0, vs0, d0, ds0, p0, q0, hargs, rfl, rfl, h0, r0⟩ := trodAll_cons hA
  obtain ⟨rfl, rfl, rfl⟩ := trodAll_nil r0
  obtain rfl : args = #[v0] := by cases args; simp_all
  obtain ⟨rfl, rfl⟩ := trodVars_none hV
  have lt0 : ∀ x ∈ p0, x.block < W.heap.size := by obtain ⟨m, hm⟩ := h0; exact DataW.trod_lt m _ _ _ hm
  have bk0 := fun {W' : World} (bel : Below W.heap.size W W') => Below.trod laidOut (by kernel_rfl) (of_decide_eq_true (by kernel_rfl)) h0 bel lt0
  obtain ⟨⟨a0_0, ⟨a0_1, ⟨a0_2, ⟨l0_3, l0_4⟩⟩⟩⟩, cs0, hv0, hK0, ⟨o0_0, ⟨o0_1, ⟨o0_2, ⟨o0_3, o0_4⟩⟩⟩⟩⟩ := arg_struct Try.underlying24 (tells_struct Try.underlying24 (by kernel_rfl) (fs_cons rfl (tellsI Try.underlying3 (by kernel_rfl)) (fs_cons rfl (tellsS Try.underlying9 (by kernel_rfl)) (fs_cons rfl (tellsS Try.underlying9 (by kernel_rfl)) (fs_cons rfl (tellsL Try.underlying22 (by kernel_rfl) (tellsB Try.underlying5 (by kernel_rfl))) (fs_one rfl (tellsL Try.underlying22 (by kernel_rfl) (tellsB Try.underlying5 (by kernel_rfl))))))))) (hval 0 24 v0 rfl rfl) h0
  obtain ⟨_, _, rfl, rfl, ⟨_, _, rfl, rfl, ⟨_, _, rfl, rfl, ⟨_, _, rfl, ⟨A0_3, c0_3, rfl, hl0_3, hC0_3⟩, ⟨A0_4, c0_4, rfl, hl0_4, hC0_4⟩⟩⟩⟩⟩ := hK0
  simp only [List.cons_append, List.nil_append] at hv0
  subst hv0
  obtain ⟨k, hk⟩ := Pure.FnExactGoodLogEntry a0_0 a0_1 a0_2 l0_3 l0_4 o0_0 o0_1 o0_2 o0_3 o0_4
  refine (laws_FnExactGoodLogEntry.calls k a0_0 a0_1 a0_2 _ _ l0_3 _ _ l0_4 true W hC0_3 hl0_3 hC0_4 hl0_4 hk).mono fun e W' hpost => ?_
  obtain ⟨he, hb⟩ := hpost
  have bel : Below W.heap.size W W' := hb
  subst he
  exact ⟨_, rfl, _, _, _, [], _, [], hW', trodAll_mk1 (shut_bool Try.underlying4 _), (trodAll_cons_mk (bk0 bel) trodAll_mk0), rfl, bel.frame _, fun h => by cases h⟩
theorem over : Rows.fnExactGoodLogEntryRow.holds Try.pinned (OpenSpec.ofChange Rows.fnExactGoodLogEntrySpec) :=
  OpenClaim.holds_of_wide 3 Try.f3 rfl rfl rfl rfl rfl rfl rfl ⟨rfl, rfl, rfl, rfl, rfl⟩ rfl rfl rfl rfl rfl (by kernel_rfl) Try.func3 (by kernel_rfl)
    (of_decide_eq_true (by kernel_rfl)) (by unfold Func.isWrapper; first | (rw [if_pos (by decide +kernel)]; kernel_rfl) | (rw [if_neg (by decide +kernel)]; exact ⟨rfl, rfl⟩))
    (fun os started H enc _ => lifted os started H enc)
theorem proved : Rows.FnExactGoodLogEntrySaid := over
#print axioms proved
end Go.Proofs.Ytipdkendfcopiaa.fnExactGoodLogEntry
namespace Go.Proofs.Ytipdkendfcopiaa
/-- The row, under a short name, for the claim. -/
theorem fnExactGoodLogEntry_holds : Rows.FnExactGoodLogEntrySaid := fnExactGoodLogEntry.proved
end Go.Proofs.Ytipdkendfcopiaa
