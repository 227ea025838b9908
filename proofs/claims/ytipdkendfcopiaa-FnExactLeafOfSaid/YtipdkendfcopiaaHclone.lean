/- The walk of bytes.Clone: a row of its own with the same bytes; nil of nil. -/
import Derived.Test.YtipdkendfcopiaaPr0x
import Derived.WalkSpells
namespace Go.Proofs.Ytipdkendfcopiaa.Pr
open Go.RowKit Go.Proofs.YtipdkendfcopiaaW.PrintWords Go.Proofs.YtipdkendfcopiaaW.PrintLast Go.Proofs.YtipdkendfcopiaaW.PrintMore
set_option linter.unusedVariables false
def bytes_Clone.f (l0 : List Int) : Option (List Int) := if l0.length ≤ 140737488355328 then some l0 else none
set_option maxHeartbeats 1000000 in
set_option maxRecDepth 100000 in
theorem bytes_Clone.calls (A0 : Option Addr) (c0 : Nat) (l0 : List Int) (r : List Int) (w : World) (hr0 : Kd.C (Kd.int .u8) w A0 l0.length l0) (hc0 : l0.length ≤ c0) (h : bytes_Clone.f l0 = some r) :
    Calls Try.prog 74 #[.slice A0 l0.length c0] w fun e w' => ∃ v0_ : Value, e = .returned (v0_) ∧ Kd.R (Kd.int .u8) 5 w' w.heap.size (fun _ => True) v0_ r ∧ Below w.heap.size w w' := by
  unfold bytes_Clone.f at h
  by_cases hs : l0.length ≤ 140737488355328
  case neg => rw [if_neg hs] at h; cases h
  rw [if_pos hs] at h
  obtain rfl := Option.some.inj h
  clear h
  have HR0 := Aside0.mk hr0
  have HC0 := Aside0.mk hc0
  have HS := Aside0.mk hs
  clear hr0 hc0 hs
  cases A0 with
  | none =>
    have h0 : l0.length = 0 := by
      rcases Nat.eq_zero_or_pos l0.length with h0 | h0
      · exact h0
      · obtain ⟨ad, h, _⟩ := HR0.out.2.2 h0
        cases h
    obtain rfl := List.eq_nil_of_length_eq_zero h0
    have qe := fun (W : World) => Lib.run_eql_slice_nil (P := Try.prog) W 22 5 none 0 c0 0 0 Try.underlying22
    simp only [List.length_nil]
    go_enter Try.func74, Try.ntmps74
    go_wp2
    go_ret
    exact ⟨_, rfl, Kd.R_nil _ _ _ _ _, Below.refl _ _⟩
  | some ad =>
    have qe := fun (W : World) => Lib.run_eql_slice_nil (P := Try.prog) W 22 5 (some ad) l0.length c0 0 0 Try.underlying22
    have HO : Aside0 ((Kd.int .u8).R 5 (w.alloc (.cells #[] 5)) w.heap.size (fun _ => True) (.slice (some ⟨w.heap.size, 0, none⟩) 0 0) []) := ⟨Kd.R_of_own (h1 := fun _ => rfl) (own_lit w w.heap.size 5 .u8 [] (Nat.le_refl _) (by simp)) (fun _ _ => trivial)⟩
    have HB : Aside0 (Below w.heap.size w (w.alloc (.cells #[] 5))) := ⟨below_alloc (Below.refl _ _) _⟩
    go_enter Try.func74, Try.ntmps74
    go_wp2_with ((with_reducible refine gate_builtin (b := .append) (xs := #[.tmp 5, .tmp 6]) rfl ?_); at_builtin; refine Kd.R_append_row (Value.int .u8) 0 (w0 := w) w.heap.size rfl (.tmp 5) (.tmp 6) 22 5 (.int .u8 0) 1 rfl Try.underlying22 info5 rfl (by decide) _ [] l0 _ _ _ (fun _ => True) rfl rfl (fun _ _ => trivial) HO.out (Kd.C_below HR0.out HB.out) HB.out HB.out.size ?aL ?_; (case aL => have := HS.out; simp; omega); intro v1 w3 hr hb hg hat; replace hr := Aside0.mk hr; replace hb := Aside0.mk hb; clear hg hat)
    go_ret
    have h := hr.out
    rw [List.nil_append] at h
    exact ⟨_, rfl, h, hb.out⟩
end Go.Proofs.Ytipdkendfcopiaa.Pr
