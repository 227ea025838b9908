/- The law FnExactSignHead: whatever the input, the call returns true and the arguments read as before. No conditions. -/
import Derived.Test.YtipdkendfcopiaaFullFnExactSignHeadE
import Derived.WalkSpells
import Derived.Test.YtipdkendfcopiaaRows
import Derived.WalkKit
import Derived.ProofKit
import Derived.OpenShut
import Derived.ShutString
import Derived.ChangeOld
import Derived.Below
namespace Go.Proofs.Ytipdkendfcopiaa.Pr
open Go.RowKit Go.Proofs.YtipdkendfcopiaaW.PrintWords Go.Proofs.YtipdkendfcopiaaW.PrintLast Go.Proofs.YtipdkendfcopiaaW.PrintMore
attribute [local go_sem] max2_int min2_int max_two min_two max_three min_three max_four min_four
set_option linter.unusedVariables false
set_option linter.unusedSimpArgs false
def laws_FnExactSignHead.f (k : Nat) (a0 : Int) (l1 : List (S24)) : Option (Bool) := (laws_szLogEntryS.f k l1 1048576).bind fun t101 => (if t101 < 0 then (some true) else ((laws_toLogEntryS.f k l1).bind fun t102 => ((spec_SignHead.f k a0 t102).bind fun bt105 => ((laws_toLogEntryS.f k l1).bind fun t112 => ((impl_SignHead.f k a0 t112).bind fun bt115 => ((laws_eqLogHead.f k bt115.1 bt115.2.1 bt115.2.2.1 bt115.2.2.2 bt105.1 bt105.2.1 bt105.2.2.1 bt105.2.2.2).bind fun t122 => (if t122 = true then ((laws_toLogEntryS.f k l1).bind fun t123 => ((laws_eqLogEntryS.f k t112 t123).bind fun t126 => (if t126 = true then ((laws_markLogEntryS.f t112 1).bind fun t127 => (if t127 < 0 then (none) else ((laws_eqLogHead.f k bt115.1 bt115.2.1 bt115.2.2.1 bt115.2.2.2 bt105.1 bt105.2.1 bt105.2.2.1 bt105.2.2.2).bind fun t128 => (if t128 = true then ((laws_markLogHead.f k bt115.1 bt115.2.1 bt115.2.2.1 bt115.2.2.2 1).bind fun bt129 => ((laws_heldLogHead.f k bt115.1 bt129.2 bt115.2.2.1 bt115.2.2.2 1).bind fun t131 => (if t131 < 0 then (none) else (if t131 = bt129.1 then ((laws_toLogEntryS.f k l1).bind fun t132 => ((impl_SignHead.f k a0 t132).bind fun bt135 => ((laws_eqLogHead.f k bt135.1 bt135.2.1 bt135.2.2.1 bt135.2.2.2 bt105.1 bt105.2.1 bt105.2.2.1 bt105.2.2.2).bind fun t142 => (if t142 = true then ((laws_heldLogHead.f k bt115.1 bt129.2 bt115.2.2.1 bt115.2.2.2 1).bind fun t143 => (if t143 < 0 then (none) else (if t143 = bt129.1 then (some true) else (none)))) else (none))))) else (none))))) else (none))))) else (none)))) else (none))))))))
set_option maxHeartbeats 8000000 in
set_option maxRecDepth 100000 in
theorem laws_FnExactSignHead.calls (k : Nat) (a0 : Int) (A1 : Option Addr) (c1 : Nat) (l1 : List (S24)) (r : Bool) (w : World) (hr1 : Kd.C k24 w A1 l1.length l1) (hc1 : l1.length ≤ c1) (h : laws_FnExactSignHead.f k a0 l1 = some r) :
    Calls Try.prog 13 #[.int .i64 a0, .slice A1 l1.length c1] w fun e w' => e = .returned (.bool r) ∧ Below w.heap.size w w' := by
  have hu61 := Try.underlying61
  have HR1 := Aside0.mk hr1
  have HC1 := Aside0.mk hc1
  clear hr1 hc1
  have HB := Aside0.mk (Below.refl w.heap.size w)
  have H : ((laws_szLogEntryS.f k l1 1048576).bind fun t101 => (if t101 < 0 then (some true) else ((laws_toLogEntryS.f k l1).bind fun t102 => ((spec_SignHead.f k a0 t102).bind fun bt105 => ((laws_toLogEntryS.f k l1).bind fun t112 => ((impl_SignHead.f k a0 t112).bind fun bt115 => ((laws_eqLogHead.f k bt115.1 bt115.2.1 bt115.2.2.1 bt115.2.2.2 bt105.1 bt105.2.1 bt105.2.2.1 bt105.2.2.2).bind fun t122 => (if t122 = true then ((laws_toLogEntryS.f k l1).bind fun t123 => ((laws_eqLogEntryS.f k t112 t123).bind fun t126 => (if t126 = true then ((laws_markLogEntryS.f t112 1).bind fun t127 => (if t127 < 0 then (none) else ((laws_eqLogHead.f k bt115.1 bt115.2.1 bt115.2.2.1 bt115.2.2.2 bt105.1 bt105.2.1 bt105.2.2.1 bt105.2.2.2).bind fun t128 => (if t128 = true then ((laws_markLogHead.f k bt115.1 bt115.2.1 bt115.2.2.1 bt115.2.2.2 1).bind fun bt129 => ((laws_heldLogHead.f k bt115.1 bt129.2 bt115.2.2.1 bt115.2.2.2 1).bind fun t131 => (if t131 < 0 then (none) else (if t131 = bt129.1 then ((laws_toLogEntryS.f k l1).bind fun t132 => ((impl_SignHead.f k a0 t132).bind fun bt135 => ((laws_eqLogHead.f k bt135.1 bt135.2.1 bt135.2.2.1 bt135.2.2.2 bt105.1 bt105.2.1 bt105.2.2.1 bt105.2.2.2).bind fun t142 => (if t142 = true then ((laws_heldLogHead.f k bt115.1 bt129.2 bt115.2.2.1 bt115.2.2.2 1).bind fun t143 => (if t143 < 0 then (none) else (if t143 = bt129.1 then (some true) else (none)))) else (none))))) else (none))))) else (none))))) else (none)))) else (none))))))))) = some r := h
  clear h
  replace H := Option.bind_eq_some_iff.mp H
  obtain ⟨t101, A30, H⟩ := H
  replace H : (if t101 < 0 then (some true) else ((laws_toLogEntryS.f k l1).bind fun t102 => ((spec_SignHead.f k a0 t102).bind fun bt105 => ((laws_toLogEntryS.f k l1).bind fun t112 => ((impl_SignHead.f k a0 t112).bind fun bt115 => ((laws_eqLogHead.f k bt115.1 bt115.2.1 bt115.2.2.1 bt115.2.2.2 bt105.1 bt105.2.1 bt105.2.2.1 bt105.2.2.2).bind fun t122 => (if t122 = true then ((laws_toLogEntryS.f k l1).bind fun t123 => ((laws_eqLogEntryS.f k t112 t123).bind fun t126 => (if t126 = true then ((laws_markLogEntryS.f t112 1).bind fun t127 => (if t127 < 0 then (none) else ((laws_eqLogHead.f k bt115.1 bt115.2.1 bt115.2.2.1 bt115.2.2.2 bt105.1 bt105.2.1 bt105.2.2.1 bt105.2.2.2).bind fun t128 => (if t128 = true then ((laws_markLogHead.f k bt115.1 bt115.2.1 bt115.2.2.1 bt115.2.2.2 1).bind fun bt129 => ((laws_heldLogHead.f k bt115.1 bt129.2 bt115.2.2.1 bt115.2.2.2 1).bind fun t131 => (if t131 < 0 then (none) else (if t131 = bt129.1 then ((laws_toLogEntryS.f k l1).bind fun t132 => ((impl_SignHead.f k a0 t132).bind fun bt135 => ((laws_eqLogHead.f k bt135.1 bt135.2.1 bt135.2.2.1 bt135.2.2.2 bt105.1 bt105.2.1 bt105.2.2.1 bt105.2.2.2).bind fun t142 => (if t142 = true then ((laws_heldLogHead.f k bt115.1 bt129.2 bt115.2.2.1 bt115.2.2.2 1).bind fun t143 => (if t143 < 0 then (none) else (if t143 = bt129.1 then (some true) else (none)))) else (none))))) else (none))))) else (none))))) else (none)))) else (none)))))))) = some r := H
  have A3 := Aside0.mk A30
  clear A30
  by_cases c4 : t101 < 0
  · rw [if_pos c4] at H
    have c4b0 : decide (t101 < 0) = true := decide_eq_true c4
    clear c4
    obtain rfl := Option.some.inj H
    go_enter Try.func13, Try.ntmps13
    go_wp2_with (first | ((with_reducible refine gate_callee (f := 33) rfl ?_); refine goesL_ (some 15) rfl rfl Try.func33 (by kernel_rfl) rfl #[.slice A1 l1.length c1, .int .i64 1048576] rfl (by (try simp only [List.map_toArray, List.map_cons, List.map_nil]); first | done | rfl | (simp only [List.length_drop, List.length_take]; rfl)) ?_; (with_reducible refine (laws_szLogEntryS.calls k _ _ l1 1048576 t101 _ ?side1 ?side2 A3.out).mono ?_); (case side1 => repeat (first | exact HR1.out | (with_reducible refine Kd.C_alloc ?_ _) | (with_reducible refine Kd.C_drewN ?_ _) | (with_reducible refine Kd.C_drew ?_))); (case side2 => exact HC1.out); rintro e w5 ⟨rfl, hb⟩; refine ⟨_, rfl, ?_⟩; have n0_ := Aside0.mk (below_step (by repeat (first | (with_reducible first | exact HB.out | apply below_alloc | apply pw_below_drewN | apply below_drew1) | exact HB.out)) hb); clear HB; have HB := n0_; clear n0_; (try clear hb); (try clear hb2); (try clear hk); (try clear hi)))
    go_ret
    exact ⟨by first | rfl | (simp [errW_none, errW_some] <;> rfl) | (simp [*, errW_none, errW_some] <;> rfl), by repeat (first | (with_reducible first | exact HB.out | apply below_alloc | apply pw_below_drewN | apply below_drew1) | exact HB.out)⟩
  · rw [if_neg c4] at H
    have c4b0 : decide (t101 < 0) = false := decide_eq_false c4
    clear c4
    replace H := Option.bind_eq_some_iff.mp H
    obtain ⟨t102, A60, H⟩ := H
    replace H : ((spec_SignHead.f k a0 t102).bind fun bt105 => ((laws_toLogEntryS.f k l1).bind fun t112 => ((impl_SignHead.f k a0 t112).bind fun bt115 => ((laws_eqLogHead.f k bt115.1 bt115.2.1 bt115.2.2.1 bt115.2.2.2 bt105.1 bt105.2.1 bt105.2.2.1 bt105.2.2.2).bind fun t122 => (if t122 = true then ((laws_toLogEntryS.f k l1).bind fun t123 => ((laws_eqLogEntryS.f k t112 t123).bind fun t126 => (if t126 = true then ((laws_markLogEntryS.f t112 1).bind fun t127 => (if t127 < 0 then (none) else ((laws_eqLogHead.f k bt115.1 bt115.2.1 bt115.2.2.1 bt115.2.2.2 bt105.1 bt105.2.1 bt105.2.2.1 bt105.2.2.2).bind fun t128 => (if t128 = true then ((laws_markLogHead.f k bt115.1 bt115.2.1 bt115.2.2.1 bt115.2.2.2 1).bind fun bt129 => ((laws_heldLogHead.f k bt115.1 bt129.2 bt115.2.2.1 bt115.2.2.2 1).bind fun t131 => (if t131 < 0 then (none) else (if t131 = bt129.1 then ((laws_toLogEntryS.f k l1).bind fun t132 => ((impl_SignHead.f k a0 t132).bind fun bt135 => ((laws_eqLogHead.f k bt135.1 bt135.2.1 bt135.2.2.1 bt135.2.2.2 bt105.1 bt105.2.1 bt105.2.2.1 bt105.2.2.2).bind fun t142 => (if t142 = true then ((laws_heldLogHead.f k bt115.1 bt129.2 bt115.2.2.1 bt115.2.2.2 1).bind fun t143 => (if t143 < 0 then (none) else (if t143 = bt129.1 then (some true) else (none)))) else (none))))) else (none))))) else (none))))) else (none)))) else (none)))))) = some r := H
    have A6 := Aside0.mk A60
    clear A60
    replace H := Option.bind_eq_some_iff.mp H
    obtain ⟨⟨t105, t106, t109, t110⟩, A70, H⟩ := H
    replace H : ((laws_toLogEntryS.f k l1).bind fun t112 => ((impl_SignHead.f k a0 t112).bind fun bt115 => ((laws_eqLogHead.f k bt115.1 bt115.2.1 bt115.2.2.1 bt115.2.2.2 t105 t106 t109 t110).bind fun t122 => (if t122 = true then ((laws_toLogEntryS.f k l1).bind fun t123 => ((laws_eqLogEntryS.f k t112 t123).bind fun t126 => (if t126 = true then ((laws_markLogEntryS.f t112 1).bind fun t127 => (if t127 < 0 then (none) else ((laws_eqLogHead.f k bt115.1 bt115.2.1 bt115.2.2.1 bt115.2.2.2 t105 t106 t109 t110).bind fun t128 => (if t128 = true then ((laws_markLogHead.f k bt115.1 bt115.2.1 bt115.2.2.1 bt115.2.2.2 1).bind fun bt129 => ((laws_heldLogHead.f k bt115.1 bt129.2 bt115.2.2.1 bt115.2.2.2 1).bind fun t131 => (if t131 < 0 then (none) else (if t131 = bt129.1 then ((laws_toLogEntryS.f k l1).bind fun t132 => ((impl_SignHead.f k a0 t132).bind fun bt135 => ((laws_eqLogHead.f k bt135.1 bt135.2.1 bt135.2.2.1 bt135.2.2.2 t105 t106 t109 t110).bind fun t142 => (if t142 = true then ((laws_heldLogHead.f k bt115.1 bt129.2 bt115.2.2.1 bt115.2.2.2 1).bind fun t143 => (if t143 < 0 then (none) else (if t143 = bt129.1 then (some true) else (none)))) else (none))))) else (none))))) else (none))))) else (none)))) else (none))))) = some r := H
    have A7 := Aside0.mk A70
    clear A70
    replace H := Option.bind_eq_some_iff.mp H
    obtain ⟨t112, A80, H⟩ := H
    replace H : ((impl_SignHead.f k a0 t112).bind fun bt115 => ((laws_eqLogHead.f k bt115.1 bt115.2.1 bt115.2.2.1 bt115.2.2.2 t105 t106 t109 t110).bind fun t122 => (if t122 = true then ((laws_toLogEntryS.f k l1).bind fun t123 => ((laws_eqLogEntryS.f k t112 t123).bind fun t126 => (if t126 = true then ((laws_markLogEntryS.f t112 1).bind fun t127 => (if t127 < 0 then (none) else ((laws_eqLogHead.f k bt115.1 bt115.2.1 bt115.2.2.1 bt115.2.2.2 t105 t106 t109 t110).bind fun t128 => (if t128 = true then ((laws_markLogHead.f k bt115.1 bt115.2.1 bt115.2.2.1 bt115.2.2.2 1).bind fun bt129 => ((laws_heldLogHead.f k bt115.1 bt129.2 bt115.2.2.1 bt115.2.2.2 1).bind fun t131 => (if t131 < 0 then (none) else (if t131 = bt129.1 then ((laws_toLogEntryS.f k l1).bind fun t132 => ((impl_SignHead.f k a0 t132).bind fun bt135 => ((laws_eqLogHead.f k bt135.1 bt135.2.1 bt135.2.2.1 bt135.2.2.2 t105 t106 t109 t110).bind fun t142 => (if t142 = true then ((laws_heldLogHead.f k bt115.1 bt129.2 bt115.2.2.1 bt115.2.2.2 1).bind fun t143 => (if t143 < 0 then (none) else (if t143 = bt129.1 then (some true) else (none)))) else (none))))) else (none))))) else (none))))) else (none)))) else (none)))) = some r := H
    have A8 := Aside0.mk A80
    clear A80
    replace H := Option.bind_eq_some_iff.mp H
    obtain ⟨⟨t115, t116, t119, t120⟩, A90, H⟩ := H
    replace H : ((laws_eqLogHead.f k t115 t116 t119 t120 t105 t106 t109 t110).bind fun t122 => (if t122 = true then ((laws_toLogEntryS.f k l1).bind fun t123 => ((laws_eqLogEntryS.f k t112 t123).bind fun t126 => (if t126 = true then ((laws_markLogEntryS.f t112 1).bind fun t127 => (if t127 < 0 then (none) else ((laws_eqLogHead.f k t115 t116 t119 t120 t105 t106 t109 t110).bind fun t128 => (if t128 = true then ((laws_markLogHead.f k t115 t116 t119 t120 1).bind fun bt129 => ((laws_heldLogHead.f k t115 bt129.2 t119 t120 1).bind fun t131 => (if t131 < 0 then (none) else (if t131 = bt129.1 then ((laws_toLogEntryS.f k l1).bind fun t132 => ((impl_SignHead.f k a0 t132).bind fun bt135 => ((laws_eqLogHead.f k bt135.1 bt135.2.1 bt135.2.2.1 bt135.2.2.2 t105 t106 t109 t110).bind fun t142 => (if t142 = true then ((laws_heldLogHead.f k t115 bt129.2 t119 t120 1).bind fun t143 => (if t143 < 0 then (none) else (if t143 = bt129.1 then (some true) else (none)))) else (none))))) else (none))))) else (none))))) else (none)))) else (none))) = some r := H
    have A9 := Aside0.mk A90
    clear A90
    replace H := Option.bind_eq_some_iff.mp H
    obtain ⟨t122, A100, H⟩ := H
    replace H : (if t122 = true then ((laws_toLogEntryS.f k l1).bind fun t123 => ((laws_eqLogEntryS.f k t112 t123).bind fun t126 => (if t126 = true then ((laws_markLogEntryS.f t112 1).bind fun t127 => (if t127 < 0 then (none) else ((laws_eqLogHead.f k t115 t116 t119 t120 t105 t106 t109 t110).bind fun t128 => (if t128 = true then ((laws_markLogHead.f k t115 t116 t119 t120 1).bind fun bt129 => ((laws_heldLogHead.f k t115 bt129.2 t119 t120 1).bind fun t131 => (if t131 < 0 then (none) else (if t131 = bt129.1 then ((laws_toLogEntryS.f k l1).bind fun t132 => ((impl_SignHead.f k a0 t132).bind fun bt135 => ((laws_eqLogHead.f k bt135.1 bt135.2.1 bt135.2.2.1 bt135.2.2.2 t105 t106 t109 t110).bind fun t142 => (if t142 = true then ((laws_heldLogHead.f k t115 bt129.2 t119 t120 1).bind fun t143 => (if t143 < 0 then (none) else (if t143 = bt129.1 then (some true) else (none)))) else (none))))) else (none))))) else (none))))) else (none)))) else (none)) = some r := H
    have A10 := Aside0.mk A100
    clear A100
    by_cases c11 : t122 = true
    · subst c11
      have H1 : ((laws_toLogEntryS.f k l1).bind fun t123 => ((laws_eqLogEntryS.f k t112 t123).bind fun t126 => (if t126 = true then ((laws_markLogEntryS.f t112 1).bind fun t127 => (if t127 < 0 then (none) else ((laws_eqLogHead.f k t115 t116 t119 t120 t105 t106 t109 t110).bind fun t128 => (if t128 = true then ((laws_markLogHead.f k t115 t116 t119 t120 1).bind fun bt129 => ((laws_heldLogHead.f k t115 bt129.2 t119 t120 1).bind fun t131 => (if t131 < 0 then (none) else (if t131 = bt129.1 then ((laws_toLogEntryS.f k l1).bind fun t132 => ((impl_SignHead.f k a0 t132).bind fun bt135 => ((laws_eqLogHead.f k bt135.1 bt135.2.1 bt135.2.2.1 bt135.2.2.2 t105 t106 t109 t110).bind fun t142 => (if t142 = true then ((laws_heldLogHead.f k t115 bt129.2 t119 t120 1).bind fun t143 => (if t143 < 0 then (none) else (if t143 = bt129.1 then (some true) else (none)))) else (none))))) else (none))))) else (none))))) else (none)))) = some r := by rw [if_pos rfl] at H; exact H
      clear H
      have H := H1
      clear H1
      replace H := Option.bind_eq_some_iff.mp H
      obtain ⟨t123, A120, H⟩ := H
      replace H : ((laws_eqLogEntryS.f k t112 t123).bind fun t126 => (if t126 = true then ((laws_markLogEntryS.f t112 1).bind fun t127 => (if t127 < 0 then (none) else ((laws_eqLogHead.f k t115 t116 t119 t120 t105 t106 t109 t110).bind fun t128 => (if t128 = true then ((laws_markLogHead.f k t115 t116 t119 t120 1).bind fun bt129 => ((laws_heldLogHead.f k t115 bt129.2 t119 t120 1).bind fun t131 => (if t131 < 0 then (none) else (if t131 = bt129.1 then ((laws_toLogEntryS.f k l1).bind fun t132 => ((impl_SignHead.f k a0 t132).bind fun bt135 => ((laws_eqLogHead.f k bt135.1 bt135.2.1 bt135.2.2.1 bt135.2.2.2 t105 t106 t109 t110).bind fun t142 => (if t142 = true then ((laws_heldLogHead.f k t115 bt129.2 t119 t120 1).bind fun t143 => (if t143 < 0 then (none) else (if t143 = bt129.1 then (some true) else (none)))) else (none))))) else (none))))) else (none))))) else (none))) = some r := H
      have A12 := Aside0.mk A120
      clear A120
      replace H := Option.bind_eq_some_iff.mp H
      obtain ⟨t126, A130, H⟩ := H
      replace H : (if t126 = true then ((laws_markLogEntryS.f t112 1).bind fun t127 => (if t127 < 0 then (none) else ((laws_eqLogHead.f k t115 t116 t119 t120 t105 t106 t109 t110).bind fun t128 => (if t128 = true then ((laws_markLogHead.f k t115 t116 t119 t120 1).bind fun bt129 => ((laws_heldLogHead.f k t115 bt129.2 t119 t120 1).bind fun t131 => (if t131 < 0 then (none) else (if t131 = bt129.1 then ((laws_toLogEntryS.f k l1).bind fun t132 => ((impl_SignHead.f k a0 t132).bind fun bt135 => ((laws_eqLogHead.f k bt135.1 bt135.2.1 bt135.2.2.1 bt135.2.2.2 t105 t106 t109 t110).bind fun t142 => (if t142 = true then ((laws_heldLogHead.f k t115 bt129.2 t119 t120 1).bind fun t143 => (if t143 < 0 then (none) else (if t143 = bt129.1 then (some true) else (none)))) else (none))))) else (none))))) else (none))))) else (none)) = some r := H
      have A13 := Aside0.mk A130
      clear A130
      by_cases c14 : t126 = true
      · subst c14
        have H1 : ((laws_markLogEntryS.f t112 1).bind fun t127 => (if t127 < 0 then (none) else ((laws_eqLogHead.f k t115 t116 t119 t120 t105 t106 t109 t110).bind fun t128 => (if t128 = true then ((laws_markLogHead.f k t115 t116 t119 t120 1).bind fun bt129 => ((laws_heldLogHead.f k t115 bt129.2 t119 t120 1).bind fun t131 => (if t131 < 0 then (none) else (if t131 = bt129.1 then ((laws_toLogEntryS.f k l1).bind fun t132 => ((impl_SignHead.f k a0 t132).bind fun bt135 => ((laws_eqLogHead.f k bt135.1 bt135.2.1 bt135.2.2.1 bt135.2.2.2 t105 t106 t109 t110).bind fun t142 => (if t142 = true then ((laws_heldLogHead.f k t115 bt129.2 t119 t120 1).bind fun t143 => (if t143 < 0 then (none) else (if t143 = bt129.1 then (some true) else (none)))) else (none))))) else (none))))) else (none))))) = some r := by rw [if_pos rfl] at H; exact H
        clear H
        have H := H1
        clear H1
        replace H := Option.bind_eq_some_iff.mp H
        obtain ⟨t127, A150, H⟩ := H
        replace H : (if t127 < 0 then (none) else ((laws_eqLogHead.f k t115 t116 t119 t120 t105 t106 t109 t110).bind fun t128 => (if t128 = true then ((laws_markLogHead.f k t115 t116 t119 t120 1).bind fun bt129 => ((laws_heldLogHead.f k t115 bt129.2 t119 t120 1).bind fun t131 => (if t131 < 0 then (none) else (if t131 = bt129.1 then ((laws_toLogEntryS.f k l1).bind fun t132 => ((impl_SignHead.f k a0 t132).bind fun bt135 => ((laws_eqLogHead.f k bt135.1 bt135.2.1 bt135.2.2.1 bt135.2.2.2 t105 t106 t109 t110).bind fun t142 => (if t142 = true then ((laws_heldLogHead.f k t115 bt129.2 t119 t120 1).bind fun t143 => (if t143 < 0 then (none) else (if t143 = bt129.1 then (some true) else (none)))) else (none))))) else (none))))) else (none)))) = some r := H
        have A15 := Aside0.mk A150
        clear A150
        by_cases c16 : t127 < 0
        · rw [if_pos c16] at H
          exact absurd H (by simp)
        · rw [if_neg c16] at H
          have c16b0 : decide (t127 < 0) = false := decide_eq_false c16
          clear c16
          replace H := Option.bind_eq_some_iff.mp H
          obtain ⟨t128, A170, H⟩ := H
          replace H : (if t128 = true then ((laws_markLogHead.f k t115 t116 t119 t120 1).bind fun bt129 => ((laws_heldLogHead.f k t115 bt129.2 t119 t120 1).bind fun t131 => (if t131 < 0 then (none) else (if t131 = bt129.1 then ((laws_toLogEntryS.f k l1).bind fun t132 => ((impl_SignHead.f k a0 t132).bind fun bt135 => ((laws_eqLogHead.f k bt135.1 bt135.2.1 bt135.2.2.1 bt135.2.2.2 t105 t106 t109 t110).bind fun t142 => (if t142 = true then ((laws_heldLogHead.f k t115 bt129.2 t119 t120 1).bind fun t143 => (if t143 < 0 then (none) else (if t143 = bt129.1 then (some true) else (none)))) else (none))))) else (none))))) else (none)) = some r := H
          have A17 := Aside0.mk A170
          clear A170
          by_cases c18 : t128 = true
          · subst c18
            have H1 : ((laws_markLogHead.f k t115 t116 t119 t120 1).bind fun bt129 => ((laws_heldLogHead.f k t115 bt129.2 t119 t120 1).bind fun t131 => (if t131 < 0 then (none) else (if t131 = bt129.1 then ((laws_toLogEntryS.f k l1).bind fun t132 => ((impl_SignHead.f k a0 t132).bind fun bt135 => ((laws_eqLogHead.f k bt135.1 bt135.2.1 bt135.2.2.1 bt135.2.2.2 t105 t106 t109 t110).bind fun t142 => (if t142 = true then ((laws_heldLogHead.f k t115 bt129.2 t119 t120 1).bind fun t143 => (if t143 < 0 then (none) else (if t143 = bt129.1 then (some true) else (none)))) else (none))))) else (none))))) = some r := by rw [if_pos rfl] at H; exact H
            clear H
            have H := H1
            clear H1
            replace H := Option.bind_eq_some_iff.mp H
            obtain ⟨⟨t129, t130⟩, A190, H⟩ := H
            replace H : ((laws_heldLogHead.f k t115 t130 t119 t120 1).bind fun t131 => (if t131 < 0 then (none) else (if t131 = t129 then ((laws_toLogEntryS.f k l1).bind fun t132 => ((impl_SignHead.f k a0 t132).bind fun bt135 => ((laws_eqLogHead.f k bt135.1 bt135.2.1 bt135.2.2.1 bt135.2.2.2 t105 t106 t109 t110).bind fun t142 => (if t142 = true then ((laws_heldLogHead.f k t115 t130 t119 t120 1).bind fun t143 => (if t143 < 0 then (none) else (if t143 = t129 then (some true) else (none)))) else (none))))) else (none)))) = some r := H
            have A19 := Aside0.mk A190
            clear A190
            replace H := Option.bind_eq_some_iff.mp H
            obtain ⟨t131, A200, H⟩ := H
            replace H : (if t131 < 0 then (none) else (if t131 = t129 then ((laws_toLogEntryS.f k l1).bind fun t132 => ((impl_SignHead.f k a0 t132).bind fun bt135 => ((laws_eqLogHead.f k bt135.1 bt135.2.1 bt135.2.2.1 bt135.2.2.2 t105 t106 t109 t110).bind fun t142 => (if t142 = true then ((laws_heldLogHead.f k t115 t130 t119 t120 1).bind fun t143 => (if t143 < 0 then (none) else (if t143 = t129 then (some true) else (none)))) else (none))))) else (none))) = some r := H
            have A20 := Aside0.mk A200
            clear A200
            by_cases c21 : t131 < 0
            · rw [if_pos c21] at H
              exact absurd H (by simp)
            · rw [if_neg c21] at H
              have c21b0 : decide (t131 < 0) = false := decide_eq_false c21
              clear c21
              by_cases c22 : t131 = t129
              · rw [if_pos c22] at H
                have c22b0 : (t131 == t129) = true := beq_iff_eq.mpr c22
                have c22b1 : (t131 != t129) = false := bne_eq_false_iff_eq.mpr c22
                clear c22
                replace H := Option.bind_eq_some_iff.mp H
                obtain ⟨t132, A230, H⟩ := H
                replace H : ((impl_SignHead.f k a0 t132).bind fun bt135 => ((laws_eqLogHead.f k bt135.1 bt135.2.1 bt135.2.2.1 bt135.2.2.2 t105 t106 t109 t110).bind fun t142 => (if t142 = true then ((laws_heldLogHead.f k t115 t130 t119 t120 1).bind fun t143 => (if t143 < 0 then (none) else (if t143 = t129 then (some true) else (none)))) else (none)))) = some r := H
                have A23 := Aside0.mk A230
                clear A230
                replace H := Option.bind_eq_some_iff.mp H
                obtain ⟨⟨t135, t136, t139, t140⟩, A240, H⟩ := H
                replace H : ((laws_eqLogHead.f k t135 t136 t139 t140 t105 t106 t109 t110).bind fun t142 => (if t142 = true then ((laws_heldLogHead.f k t115 t130 t119 t120 1).bind fun t143 => (if t143 < 0 then (none) else (if t143 = t129 then (some true) else (none)))) else (none))) = some r := H
                have A24 := Aside0.mk A240
                clear A240
                replace H := Option.bind_eq_some_iff.mp H
                obtain ⟨t142, A250, H⟩ := H
                replace H : (if t142 = true then ((laws_heldLogHead.f k t115 t130 t119 t120 1).bind fun t143 => (if t143 < 0 then (none) else (if t143 = t129 then (some true) else (none)))) else (none)) = some r := H
                have A25 := Aside0.mk A250
                clear A250
                by_cases c26 : t142 = true
                · subst c26
                  have H1 : ((laws_heldLogHead.f k t115 t130 t119 t120 1).bind fun t143 => (if t143 < 0 then (none) else (if t143 = t129 then (some true) else (none)))) = some r := by rw [if_pos rfl] at H; exact H
                  clear H
                  have H := H1
                  clear H1
                  replace H := Option.bind_eq_some_iff.mp H
                  obtain ⟨t143, A270, H⟩ := H
                  replace H : (if t143 < 0 then (none) else (if t143 = t129 then (some true) else (none))) = some r := H
                  have A27 := Aside0.mk A270
                  clear A270
                  by_cases c28 : t143 < 0
                  · rw [if_pos c28] at H
                    exact absurd H (by simp)
                  · rw [if_neg c28] at H
                    have c28b0 : decide (t143 < 0) = false := decide_eq_false c28
                    clear c28
                    by_cases c29 : t143 = t129
                    · rw [if_pos c29] at H
                      have c29b0 : (t143 == t129) = true := beq_iff_eq.mpr c29
                      have c29b1 : (t143 != t129) = false := bne_eq_false_iff_eq.mpr c29
                      clear c29
                      obtain rfl := Option.some.inj H
                      go_enter Try.func13, Try.ntmps13
                      go_wp2_with (first | ((with_reducible refine gate_callee (f := 33) rfl ?_); refine goesL_ (some 15) rfl rfl Try.func33 (by kernel_rfl) rfl #[.slice A1 l1.length c1, .int .i64 1048576] rfl (by (try simp only [List.map_toArray, List.map_cons, List.map_nil]); first | done | rfl | (simp only [List.length_drop, List.length_take]; rfl)) ?_; (with_reducible refine (laws_szLogEntryS.calls k _ _ l1 1048576 t101 _ ?side1 ?side2 A3.out).mono ?_); (case side1 => repeat (first | exact HR1.out | (with_reducible refine Kd.C_alloc ?_ _) | (with_reducible refine Kd.C_drewN ?_ _) | (with_reducible refine Kd.C_drew ?_))); (case side2 => exact HC1.out); rintro e w30 ⟨rfl, hb⟩; refine ⟨_, rfl, ?_⟩; have n0_ := Aside0.mk (below_step (by repeat (first | (with_reducible first | exact HB.out | apply below_alloc | apply pw_below_drewN | apply below_drew1) | exact HB.out)) hb); clear HB; have HB := n0_; clear n0_; (try clear hb); (try clear hb2); (try clear hk); (try clear hi)) | ((with_reducible refine gate_callee (f := 35) rfl ?_); refine goesL_ (some 20) rfl rfl Try.func35 (by kernel_rfl) rfl #[.slice A1 l1.length c1] rfl (by (try simp only [List.map_toArray, List.map_cons, List.map_nil]); first | done | rfl | (simp only [List.length_drop, List.length_take]; rfl)) ?_; (with_reducible refine (laws_toLogEntryS.calls k _ _ l1 t102 _ ?side1 ?side2 A6.out).mono ?_); (case side1 => repeat (first | exact (Kd.C_below HR1.out HB.out) | (with_reducible refine Kd.C_alloc ?_ _) | (with_reducible refine Kd.C_drewN ?_ _) | (with_reducible refine Kd.C_drew ?_))); (case side2 => exact HC1.out); rintro e w31 ⟨v103, rfl, ho0, hb⟩; refine ⟨_, rfl, ?_⟩; have n0_ := Aside0.mk (Kd.S_lower ho0 (below_size (by repeat (first | (with_reducible first | exact HB.out | apply below_alloc | apply pw_below_drewN | apply below_drew1) | exact HB.out)))); have n1_ := Aside0.mk (below_step (by repeat (first | (with_reducible first | exact HB.out | apply below_alloc | apply pw_below_drewN | apply below_drew1) | exact HB.out)) hb); clear HB; have HO104 := n0_; have HB := n1_; clear n0_ n1_; (try clear hb); (try clear hb2); (try clear hk); (try clear hi); (try clear ho0); obtain ⟨Ao32, co32, eo32⟩ := Kd.S_slice HO104.out; subst eo32) | ((with_reducible refine gate_callee (f := 58) rfl ?_); refine goesL_ (some 21) rfl rfl Try.func58 (by kernel_rfl) rfl #[.int .i64 a0, .slice Ao32 t102.length co32] rfl (by (try simp only [List.map_toArray, List.map_cons, List.map_nil]); first | done | rfl | (simp only [List.length_drop, List.length_take]; rfl)) ?_; (with_reducible refine (spec_SignHead.calls k a0 _ _ t102 t105 t106 t109 t110 _ ?side1 ?side2 A7.out).mono ?_); (case side1 => repeat (first | exact (Kd.S_reads' HO104.out).2.2 | (with_reducible refine Kd.C_alloc ?_ _) | (with_reducible refine Kd.C_drewN ?_ _) | (with_reducible refine Kd.C_drew ?_))); (case side2 => exact (Kd.S_reads' HO104.out).2.1); rintro e w33 ⟨v107, rfl, ho0, hb⟩; refine ⟨_, rfl, ?_⟩; have n0_ := Aside0.mk (Kd.S_below (by (with_reducible repeat (first | apply Kd.S_alloc | apply Kd.S_drewN | apply Kd.S_drew)); exact HO104.out) hb); have n1_ := Aside0.mk (Kd.V_lower (Kd.V_mono (ok' := fun k_ => some k_ ≠ (.slice Ao32 t102.length co32 : Value).ownBlock) ho0 (fun k_ hk_ => (Kd.fresh' (Kd.S_lt (by (with_reducible repeat (first | apply Kd.S_alloc | apply Kd.S_drewN | apply Kd.S_drew)); exact HO104.out)) k_ hk_))) (below_size (by repeat (first | (with_reducible first | exact HB.out | apply below_alloc | apply pw_below_drewN | apply below_drew1) | exact HB.out)))); have n2_ := Aside0.mk (below_step (by repeat (first | (with_reducible first | exact HB.out | apply below_alloc | apply pw_below_drewN | apply below_drew1) | exact HB.out)) hb); clear HO104; clear HB; have HO104 := n0_; have HO108 := n1_; have HB := n2_; clear n0_ n1_ n2_; (try clear hb); (try clear hb2); (try clear hk); (try clear hi); (try clear ho0)) | ((with_reducible refine gate_dst (N := 6) rfl ?_); refine box_event ?hg (N := 6) ?hd (cs := #[.int .i64 0, .slice none 0 0, .int .i64 0, .int .i64 0]) (t := 61) ?hr ?_; (case hd => rfl); (case hg => rfl); (case hr => first | (go_simp; done) | (go_simp; rfl)); intro gb111 hg w34 hbox hb; have n0_ := Aside0.mk (Kd.S_below (by (with_reducible repeat (first | apply Kd.S_alloc | apply Kd.S_drewN | apply Kd.S_drew)); exact HO104.out) hb); have n1_ := Aside0.mk (Kd.V_below (Kd.V_elderB (by (with_reducible repeat (first | apply Kd.V_alloc | apply Kd.V_drewN | apply Kd.V_drew)); exact HO108.out) gb111 (Nat.le_of_eq hg.symm)) hb); have n2_ := Aside0.mk (below_step (by repeat (first | (with_reducible first | exact HB.out | apply below_alloc | apply pw_below_drewN | apply below_drew1) | exact HB.out)) hb); have n3_ := Aside0.mk (hbox); have n4_ := Aside0.mk ((by rw [hg]; exact (below_size (by repeat (first | (with_reducible first | exact HB.out | apply below_alloc | apply pw_below_drewN | apply below_drew1) | exact HB.out))) : w.heap.size ≤ gb111)); have n5_ := Aside0.mk ((by rw [hg]; exact (below_size (by repeat (first | (with_reducible first | exact HB.out | apply below_alloc | apply pw_below_drewN | apply below_drew1) | exact HB.out))) : w.heap.size ≤ gb111)); clear HO104; clear HO108; clear HB; have HO104 := n0_; have HO108 := n1_; have HB := n2_; have BK111 := n3_; have GW111 := n4_; have GE111 := n5_; clear n0_ n1_ n2_ n3_ n4_ n5_; clear hb hbox hg; have hcz35_0 : w34.cell? ⟨gb111, 0, none⟩ = some (.int .i64 0) := (blk_cell BK111.out 0).trans rfl; have hcz35_1 : w34.cell? ⟨gb111, 1, none⟩ = some (.slice none 0 0) := (blk_cell BK111.out 1).trans rfl; have hcz35_2 : w34.cell? ⟨gb111, 2, none⟩ = some (.int .i64 0) := (blk_cell BK111.out 2).trans rfl; have hcz35_3 : w34.cell? ⟨gb111, 3, none⟩ = some (.int .i64 0) := (blk_cell BK111.out 3).trans rfl; have hfz35_0 := blk_frozen BK111.out 0; have hfz35_1 := blk_frozen BK111.out 1; have hfz35_2 := blk_frozen BK111.out 2; have hfz35_3 := blk_frozen BK111.out 3; obtain ⟨Ao36, co36, eo36⟩ := Kd.V_slice HO108.out; subst eo36) | ((with_reducible refine gate_callee (f := 35) rfl ?_); refine goesL_ (some 23) rfl rfl Try.func35 (by kernel_rfl) rfl #[.slice A1 l1.length c1] rfl (by (try simp only [List.map_toArray, List.map_cons, List.map_nil]); first | done | rfl | (simp only [List.length_drop, List.length_take]; rfl)) ?_; (with_reducible refine (laws_toLogEntryS.calls k _ _ l1 t112 _ ?side1 ?side2 A8.out).mono ?_); (case side1 => exact Kd.C_below HR1.out (by repeat (first | (with_reducible first | exact HB.out | apply below_alloc | apply pw_below_drewN | apply below_drew1 | refine below_set ?_ GE111.out) | exact HB.out))); (case side2 => exact HC1.out); rintro e w37 ⟨v113, rfl, ho0, hb⟩; refine ⟨_, rfl, ?_⟩; have XR := Aside0.mk (show Kd.R k27 27 w37 _ (fun k => w34.heap.size ≤ k ∧ k < w37.heap.size) v113 t112 from Kd.R_mono (Kd.R_bound (Kd.S_R ho0)) (fun k hk => ⟨by have h_ := hk.2.1; simpa only [size_setCell_, size_drewN_] using h_, hk.2.2.1⟩)); have XP := Aside0.mk (show w.heap.size ≤ w34.heap.size from by have h_ := below_size (show Below w.heap.size w _ from HB.out); simpa only [size_setCell_, size_drewN_] using h_); have XS := Aside0.mk (show w34.heap.size ≤ w37.heap.size from by have h_ := hb.size; simpa only [size_setCell_, size_drewN_] using h_); have XH := Aside0.mk (Below.refl w37.heap.size w37); have XBHO114 := Aside0.mk (show ∀ k, (v113 : Value).ownBlock = some k → w34.heap.size ≤ k from fun k e => by have h_ := Kd.S_base ho0 k e; simpa only [size_setCell_, size_drewN_] using h_); have XVHO108 := Aside0.mk (Kd.V_old (by (with_reducible repeat (first | apply Kd.V_alloc | apply Kd.V_drewN | apply Kd.V_drew)); exact (Kd.V_mono (Kd.V_far (p := ⟨gb111, 3, none⟩) (Kd.V_far (p := ⟨gb111, 2, none⟩) (Kd.V_far (p := ⟨gb111, 1, none⟩) (Kd.V_far (p := ⟨gb111, 0, none⟩) (Kd.V_mono HO108.out (fun k_ hk => (⟨hk, hk.2⟩ : _ ∧ k_ ≠ gb111))) (fun _ hk => hk.2) (.int .i64 t105)) (fun _ hk => hk.2) (.slice Ao36 t106.length co36)) (fun _ hk => hk.2) (.int .i64 t109)) (fun _ hk => hk.2) (.int .i64 t110)) (fun _ h_ => h_.1))) hb); have XK111 := Aside0.mk (show gb111 < w34.heap.size from by have h_ := blk_lt (BK111.out); simpa only [size_setCell_, size_drewN_] using h_); have n0_ := Aside0.mk (Kd.S_elder' (by (with_reducible repeat (first | apply Kd.S_alloc | apply Kd.S_drewN | apply Kd.S_drew)); exact (Kd.S_mono (Kd.S_far (p := ⟨gb111, 3, none⟩) (Kd.S_far (p := ⟨gb111, 2, none⟩) (Kd.S_far (p := ⟨gb111, 1, none⟩) (Kd.S_far (p := ⟨gb111, 0, none⟩) (Kd.S_types HO104.out BK111.out (by decide)) (fun _ hk => hk.2) (.int .i64 t105)) (fun _ hk => hk.2) (.slice Ao36 t106.length co36)) (fun _ hk => hk.2) (.int .i64 t109)) (fun _ hk => hk.2) (.int .i64 t110)) (fun _ h_ => h_.1))) (Kd.S_base ho0) hb); have n1_ := Aside0.mk (Kd.V_elder' (by (with_reducible repeat (first | apply Kd.V_alloc | apply Kd.V_drewN | apply Kd.V_drew)); exact (Kd.V_mono (Kd.V_far (p := ⟨gb111, 3, none⟩) (Kd.V_far (p := ⟨gb111, 2, none⟩) (Kd.V_far (p := ⟨gb111, 1, none⟩) (Kd.V_far (p := ⟨gb111, 0, none⟩) (Kd.V_mono HO108.out (fun k_ hk => (⟨hk, hk.2⟩ : _ ∧ k_ ≠ gb111))) (fun _ hk => hk.2) (.int .i64 t105)) (fun _ hk => hk.2) (.slice Ao36 t106.length co36)) (fun _ hk => hk.2) (.int .i64 t109)) (fun _ hk => hk.2) (.int .i64 t110)) (fun _ h_ => h_.1))) (Kd.S_base ho0) hb); have n2_ := Aside0.mk (Kd.S_lower (Kd.S_new' ho0 (Kd.S_lt (by (with_reducible repeat (first | apply Kd.S_alloc | apply Kd.S_drewN | apply Kd.S_drew)); exact (Kd.S_mono (Kd.S_far (p := ⟨gb111, 3, none⟩) (Kd.S_far (p := ⟨gb111, 2, none⟩) (Kd.S_far (p := ⟨gb111, 1, none⟩) (Kd.S_far (p := ⟨gb111, 0, none⟩) (Kd.S_types HO104.out BK111.out (by decide)) (fun _ hk => hk.2) (.int .i64 t105)) (fun _ hk => hk.2) (.slice Ao36 t106.length co36)) (fun _ hk => hk.2) (.int .i64 t109)) (fun _ hk => hk.2) (.int .i64 t110)) (fun _ h_ => h_.1))))) (below_size (by repeat (first | (with_reducible first | exact HB.out | apply below_alloc | apply pw_below_drewN | apply below_drew1 | refine below_set ?_ GE111.out) | exact HB.out)))); have n3_ := Aside0.mk (blk_below (g := gb111) (o := .cells #[.int .i64 t105, .slice Ao36 t106.length co36, .int .i64 t109, .int .i64 t110] 61 (0, 0)) (by (with_reducible repeat (first | refine blk_drewN ?_ _ | refine blk_drew ?_ | refine blk_alloc ?_ _)); refine blk_put (cs := #[.int .i64 t105, .slice Ao36 t106.length co36, .int .i64 t109, .int .i64 0]) ?_ 3 _ rfl; (with_reducible repeat (first | refine blk_drewN ?_ _ | refine blk_drew ?_ | refine blk_alloc ?_ _)); refine blk_put (cs := #[.int .i64 t105, .slice Ao36 t106.length co36, .int .i64 0, .int .i64 0]) ?_ 2 _ rfl; (with_reducible repeat (first | refine blk_drewN ?_ _ | refine blk_drew ?_ | refine blk_alloc ?_ _)); refine blk_put (cs := #[.int .i64 t105, .slice none 0 0, .int .i64 0, .int .i64 0]) ?_ 1 _ rfl; (with_reducible repeat (first | refine blk_drewN ?_ _ | refine blk_drew ?_ | refine blk_alloc ?_ _)); refine blk_put (cs := #[.int .i64 0, .slice none 0 0, .int .i64 0, .int .i64 0]) ?_ 0 _ rfl; (with_reducible repeat (first | refine blk_drewN ?_ _ | refine blk_drew ?_ | refine blk_alloc ?_ _)); exact BK111.out) hb); have n4_ := Aside0.mk (below_step (by repeat (first | (with_reducible first | exact HB.out | apply below_alloc | apply pw_below_drewN | apply below_drew1 | refine below_set ?_ GE111.out) | exact HB.out)) hb); clear HO104; clear HO108; clear BK111; clear HB; have HO104 := n0_; have HO108 := n1_; have HO114 := n2_; have BK111 := n3_; have HB := n4_; clear n0_ n1_ n2_ n3_ n4_; (try clear hb); (try clear hb2); (try clear hk); (try clear hi); (try clear ho0); obtain ⟨Ao38, co38, eo38⟩ := Kd.S_slice HO114.out; subst eo38) | ((with_reducible refine gate_callee (f := 59) rfl ?_); refine goesL_ (some 26) rfl rfl Try.func59 (by kernel_rfl) rfl #[.int .i64 a0, .slice Ao38 t112.length co38] rfl (by (try simp only [List.map_toArray, List.map_cons, List.map_nil]); first | done | rfl | (simp only [List.length_drop, List.length_take]; rfl)) ?_; (with_reducible refine (impl_SignHead.calls k a0 _ _ t112 t115 t116 t119 t120 _ ?side1 ?side2 A9.out).mono ?_); (case side1 => repeat (first | exact (Kd.S_reads' HO114.out).2.2 | (with_reducible refine Kd.C_alloc ?_ _) | (with_reducible refine Kd.C_drewN ?_ _) | (with_reducible refine Kd.C_drew ?_))); (case side2 => exact (Kd.S_reads' HO114.out).2.1); rintro e w39 ⟨v117, rfl, ho0, hb⟩; refine ⟨_, rfl, ?_⟩; have XBHO118 := Aside0.mk (show ∀ k, (v117 : Value).ownBlock = some k → w37.heap.size ≤ k from fun k e => Nat.le_trans (below_size (by repeat (first | (with_reducible first | exact XH.out | apply below_alloc | apply pw_below_drewN | apply below_drew1 | refine below_set ?_ XK111.out) | exact XH.out))) (Kd.R_base ho0 k e)); have XH2 := Aside0.mk (below_step (by repeat (first | (with_reducible first | exact XH.out | apply below_alloc | apply pw_below_drewN | apply below_drew1 | refine below_set ?_ XK111.out) | exact XH.out)) hb); clear XH; have XH := XH2; clear XH2; have n0_ := Aside0.mk (Kd.S_elder' (by (with_reducible repeat (first | apply Kd.S_alloc | apply Kd.S_drewN | apply Kd.S_drew)); exact HO104.out) (Kd.R_base ho0) hb); have n1_ := Aside0.mk (Kd.V_elder' (by (with_reducible repeat (first | apply Kd.V_alloc | apply Kd.V_drewN | apply Kd.V_drew)); exact HO108.out) (Kd.R_base ho0) hb); have n2_ := Aside0.mk (Kd.S_elder' (by (with_reducible repeat (first | apply Kd.S_alloc | apply Kd.S_drewN | apply Kd.S_drew)); exact HO114.out) (Kd.R_base ho0) hb); have n3_ := Aside0.mk (Kd.R_lower ho0 (below_size (by repeat (first | (with_reducible first | exact HB.out | apply below_alloc | apply pw_below_drewN | apply below_drew1 | refine below_set ?_ GE111.out) | exact HB.out)))); have n4_ := Aside0.mk (blk_below (g := gb111) (o := .cells #[.int .i64 t105, .slice Ao36 t106.length co36, .int .i64 t109, .int .i64 t110] 61 (0, 0)) (by (with_reducible repeat (first | refine blk_drewN ?_ _ | refine blk_drew ?_ | refine blk_alloc ?_ _)); exact BK111.out) hb); have n5_ := Aside0.mk (below_step (by repeat (first | (with_reducible first | exact HB.out | apply below_alloc | apply pw_below_drewN | apply below_drew1 | refine below_set ?_ GE111.out) | exact HB.out)) hb); clear HO104; clear HO108; clear HO114; clear BK111; clear HB; have HO104 := n0_; have HO108 := n1_; have HO114 := n2_; have HO118 := n3_; have BK111 := n4_; have HB := n5_; clear n0_ n1_ n2_ n3_ n4_ n5_; (try clear hb); (try clear hb2); (try clear hk); (try clear hi); (try clear ho0)) | ((with_reducible refine gate_dst (N := 8) rfl ?_); refine box_event ?hg (N := 8) ?hd (cs := #[.int .i64 0, .slice none 0 0, .int .i64 0, .int .i64 0]) (t := 61) ?hr ?_; (case hd => rfl); (case hg => rfl); (case hr => first | (go_simp; done) | (go_simp; rfl)); intro gb121 hg w40 hbox hb; have XK121 := Aside0.mk (show w37.heap.size ≤ gb121 from by rw [hg]; exact below_size (by repeat (first | (with_reducible first | exact XH.out | apply below_alloc | apply pw_below_drewN | apply below_drew1 | refine below_set ?_ XK111.out) | exact XH.out))); have XH2 := Aside0.mk (below_step (by repeat (first | (with_reducible first | exact XH.out | apply below_alloc | apply pw_below_drewN | apply below_drew1 | refine below_set ?_ XK111.out) | exact XH.out)) hb); clear XH; have XH := XH2; clear XH2; have n0_ := Aside0.mk (Kd.S_below (by (with_reducible repeat (first | apply Kd.S_alloc | apply Kd.S_drewN | apply Kd.S_drew)); exact HO104.out) hb); have n1_ := Aside0.mk (Kd.V_below (Kd.V_elderB (by (with_reducible repeat (first | apply Kd.V_alloc | apply Kd.V_drewN | apply Kd.V_drew)); exact HO108.out) gb121 (Nat.le_of_eq hg.symm)) hb); have n2_ := Aside0.mk (Kd.S_below (by (with_reducible repeat (first | apply Kd.S_alloc | apply Kd.S_drewN | apply Kd.S_drew)); exact HO114.out) hb); have n3_ := Aside0.mk (Kd.R_below (by (with_reducible repeat (first | apply Kd.R_alloc | apply Kd.R_drewN | apply Kd.R_drew)); exact HO118.out) hb); have n4_ := Aside0.mk (blk_below (g := gb111) (o := .cells #[.int .i64 t105, .slice Ao36 t106.length co36, .int .i64 t109, .int .i64 t110] 61 (0, 0)) (by (with_reducible repeat (first | refine blk_drewN ?_ _ | refine blk_drew ?_ | refine blk_alloc ?_ _)); exact BK111.out) hb); have n5_ := Aside0.mk (below_step (by repeat (first | (with_reducible first | exact HB.out | apply below_alloc | apply pw_below_drewN | apply below_drew1 | refine below_set ?_ GE111.out) | exact HB.out)) hb); have n6_ := Aside0.mk (hbox); have n7_ := Aside0.mk ((by rw [hg]; exact (below_size (by repeat (first | (with_reducible first | exact HB.out | apply below_alloc | apply pw_below_drewN | apply below_drew1 | refine below_set ?_ GE111.out) | exact HB.out))) : w.heap.size ≤ gb121)); have n8_ := Aside0.mk ((by rw [hg]; exact (below_size (by repeat (first | (with_reducible first | exact HB.out | apply below_alloc | apply pw_below_drewN | apply below_drew1 | refine below_set ?_ GE111.out) | exact HB.out))) : w.heap.size ≤ gb121)); have n9_ := Aside0.mk ((by rw [hg]; exact Nat.ne_of_lt (blk_lt (g := gb111) (o := .cells #[.int .i64 t105, .slice Ao36 t106.length co36, .int .i64 t109, .int .i64 t110] 61 (0, 0)) (by (with_reducible repeat (first | refine blk_drewN ?_ _ | refine blk_drew ?_ | refine blk_alloc ?_ _)); exact BK111.out)) : gb111 ≠ gb121)); have n10_ := Aside0.mk ((by rw [hg]; exact Nat.ne_of_gt (blk_lt (g := gb111) (o := .cells #[.int .i64 t105, .slice Ao36 t106.length co36, .int .i64 t109, .int .i64 t110] 61 (0, 0)) (by (with_reducible repeat (first | refine blk_drewN ?_ _ | refine blk_drew ?_ | refine blk_alloc ?_ _)); exact BK111.out)) : gb121 ≠ gb111)); clear HO104; clear HO108; clear HO114; clear HO118; clear BK111; clear HB; have HO104 := n0_; have HO108 := n1_; have HO114 := n2_; have HO118 := n3_; have BK111 := n4_; have HB := n5_; have BK121 := n6_; have GW121 := n7_; have GE121 := n8_; have NB111_121 := n9_; have NB121_111 := n10_; clear n0_ n1_ n2_ n3_ n4_ n5_ n6_ n7_ n8_ n9_ n10_; clear hb hbox hg; have hnb41 := NB121_111.out; have hnc41 := NB111_121.out; have hcz42_0 : w40.cell? ⟨gb121, 0, none⟩ = some (.int .i64 0) := (blk_cell BK121.out 0).trans rfl; have hcz42_1 : w40.cell? ⟨gb121, 1, none⟩ = some (.slice none 0 0) := (blk_cell BK121.out 1).trans rfl; have hcz42_2 : w40.cell? ⟨gb121, 2, none⟩ = some (.int .i64 0) := (blk_cell BK121.out 2).trans rfl; have hcz42_3 : w40.cell? ⟨gb121, 3, none⟩ = some (.int .i64 0) := (blk_cell BK121.out 3).trans rfl; have hfz42_0 := blk_frozen BK121.out 0; have hfz42_1 := blk_frozen BK121.out 1; have hfz42_2 := blk_frozen BK121.out 2; have hfz42_3 := blk_frozen BK121.out 3; obtain ⟨Ao43, co43, eo43⟩ := Kd.R_slice HO118.out; subst eo43; have hcz44_0 : w40.cell? ⟨gb111, 0, none⟩ = some (.int .i64 t105) := (blk_cell BK111.out 0).trans rfl; have hcz44_1 : w40.cell? ⟨gb111, 1, none⟩ = some (.slice Ao36 t106.length co36) := (blk_cell BK111.out 1).trans rfl; have hcz44_2 : w40.cell? ⟨gb111, 2, none⟩ = some (.int .i64 t109) := (blk_cell BK111.out 2).trans rfl; have hcz44_3 : w40.cell? ⟨gb111, 3, none⟩ = some (.int .i64 t110) := (blk_cell BK111.out 3).trans rfl; have hfz44_0 := blk_frozen BK111.out 0; have hfz44_1 := blk_frozen BK111.out 1; have hfz44_2 := blk_frozen BK111.out 2; have hfz44_3 := blk_frozen BK111.out 3) | ((with_reducible refine gate_callee (f := 57) rfl ?_); refine goesL_ (some 29) rfl rfl Try.func57 (by kernel_rfl) rfl #[.agg #[.int .i64 t115, .slice Ao43 t116.length co43, .int .i64 t119, .int .i64 t120], .agg #[.int .i64 t105, .slice Ao36 t106.length co36, .int .i64 t109, .int .i64 t110]] rfl (by (try simp only [List.map_toArray, List.map_cons, List.map_nil]); first | done | rfl | (simp only [List.length_drop, List.length_take]; rfl)) ?_; (with_reducible refine (laws_eqLogHead.calls k t115 _ _ t116 t119 t120 t105 _ _ t106 t109 t110 true _ ?side1 ?side2 ?side3 ?side4 A10.out).mono ?_); (case side1 => refine (Kd.R_reads' (e := 5) (base := w.heap.size) (ok := fun k_ => True) (n := t116.length) (c := co43) ?_).2.2; exact (by (with_reducible repeat (first | apply Kd.R_alloc | apply Kd.R_drewN | apply Kd.R_drew)); exact (Kd.R_mono (Kd.R_far (p := ⟨gb121, 3, none⟩) (Kd.R_far (p := ⟨gb121, 2, none⟩) (Kd.R_far (p := ⟨gb121, 1, none⟩) (Kd.R_far (p := ⟨gb121, 0, none⟩) (Kd.R_types HO118.out BK121.out (by decide)) (fun _ hk => hk.2) (.int .i64 t115)) (fun _ hk => hk.2) (.slice Ao43 t116.length co43)) (fun _ hk => hk.2) (.int .i64 t119)) (fun _ hk => hk.2) (.int .i64 t120)) (fun _ h_ => h_.1)))); (case side2 => exact (Kd.R_reads' HO118.out).2.1); (case side3 => refine (Kd.V_reads' (e := 5) (base := w.heap.size) (ok := fun k_ => ((((some k_ ≠ (.slice Ao32 t102.length co32 : Value).ownBlock ∧ k_ ≠ gb111) ∧ some k_ ≠ (.slice Ao38 t112.length co38 : Value).ownBlock) ∧ some k_ ≠ (.slice Ao43 t116.length co43 : Value).ownBlock) ∧ k_ ≠ gb121)) (n := t106.length) (c := co36) ?_).2.2; exact (by (with_reducible repeat (first | apply Kd.V_alloc | apply Kd.V_drewN | apply Kd.V_drew)); exact (Kd.V_mono (Kd.V_far (p := ⟨gb121, 3, none⟩) (Kd.V_far (p := ⟨gb121, 2, none⟩) (Kd.V_far (p := ⟨gb121, 1, none⟩) (Kd.V_far (p := ⟨gb121, 0, none⟩) (Kd.V_mono HO108.out (fun k_ hk => (⟨hk, hk.2⟩ : _ ∧ k_ ≠ gb121))) (fun _ hk => hk.2) (.int .i64 t115)) (fun _ hk => hk.2) (.slice Ao43 t116.length co43)) (fun _ hk => hk.2) (.int .i64 t119)) (fun _ hk => hk.2) (.int .i64 t120)) (fun _ h_ => h_.1)))); (case side4 => exact (Kd.V_reads' HO108.out).2.1); rintro e w45 ⟨rfl, hb⟩; refine ⟨_, rfl, ?_⟩; have XH2 := Aside0.mk (below_step (by repeat (first | (with_reducible first | exact XH.out | apply below_alloc | apply pw_below_drewN | apply below_drew1 | refine below_set ?_ XK111.out | refine below_set ?_ XK121.out) | exact XH.out)) hb); clear XH; have XH := XH2; clear XH2; have n0_ := Aside0.mk (Kd.S_below (by (with_reducible repeat (first | apply Kd.S_alloc | apply Kd.S_drewN | apply Kd.S_drew)); exact (Kd.S_mono (Kd.S_far (p := ⟨gb121, 3, none⟩) (Kd.S_far (p := ⟨gb121, 2, none⟩) (Kd.S_far (p := ⟨gb121, 1, none⟩) (Kd.S_far (p := ⟨gb121, 0, none⟩) (Kd.S_types HO104.out BK121.out (by decide)) (fun _ hk => hk.2) (.int .i64 t115)) (fun _ hk => hk.2) (.slice Ao43 t116.length co43)) (fun _ hk => hk.2) (.int .i64 t119)) (fun _ hk => hk.2) (.int .i64 t120)) (fun _ h_ => h_.1))) hb); have n1_ := Aside0.mk (Kd.V_below (by (with_reducible repeat (first | apply Kd.V_alloc | apply Kd.V_drewN | apply Kd.V_drew)); exact (Kd.V_mono (Kd.V_far (p := ⟨gb121, 3, none⟩) (Kd.V_far (p := ⟨gb121, 2, none⟩) (Kd.V_far (p := ⟨gb121, 1, none⟩) (Kd.V_far (p := ⟨gb121, 0, none⟩) (Kd.V_mono HO108.out (fun k_ hk => (⟨hk, hk.2⟩ : _ ∧ k_ ≠ gb121))) (fun _ hk => hk.2) (.int .i64 t115)) (fun _ hk => hk.2) (.slice Ao43 t116.length co43)) (fun _ hk => hk.2) (.int .i64 t119)) (fun _ hk => hk.2) (.int .i64 t120)) (fun _ h_ => h_.1))) hb); have n2_ := Aside0.mk (Kd.S_below (by (with_reducible repeat (first | apply Kd.S_alloc | apply Kd.S_drewN | apply Kd.S_drew)); exact (Kd.S_mono (Kd.S_far (p := ⟨gb121, 3, none⟩) (Kd.S_far (p := ⟨gb121, 2, none⟩) (Kd.S_far (p := ⟨gb121, 1, none⟩) (Kd.S_far (p := ⟨gb121, 0, none⟩) (Kd.S_types HO114.out BK121.out (by decide)) (fun _ hk => hk.2) (.int .i64 t115)) (fun _ hk => hk.2) (.slice Ao43 t116.length co43)) (fun _ hk => hk.2) (.int .i64 t119)) (fun _ hk => hk.2) (.int .i64 t120)) (fun _ h_ => h_.1))) hb); have n3_ := Aside0.mk (Kd.R_below (by (with_reducible repeat (first | apply Kd.R_alloc | apply Kd.R_drewN | apply Kd.R_drew)); exact (Kd.R_mono (Kd.R_far (p := ⟨gb121, 3, none⟩) (Kd.R_far (p := ⟨gb121, 2, none⟩) (Kd.R_far (p := ⟨gb121, 1, none⟩) (Kd.R_far (p := ⟨gb121, 0, none⟩) (Kd.R_types HO118.out BK121.out (by decide)) (fun _ hk => hk.2) (.int .i64 t115)) (fun _ hk => hk.2) (.slice Ao43 t116.length co43)) (fun _ hk => hk.2) (.int .i64 t119)) (fun _ hk => hk.2) (.int .i64 t120)) (fun _ h_ => h_.1))) hb); have n4_ := Aside0.mk (blk_below (g := gb111) (o := .cells #[.int .i64 t105, .slice Ao36 t106.length co36, .int .i64 t109, .int .i64 t110] 61 (0, 0)) (by (with_reducible repeat (first | refine blk_drewN ?_ _ | refine blk_drew ?_ | refine blk_alloc ?_ _)); refine blk_far ?_ NB111_121.out _; (with_reducible repeat (first | refine blk_drewN ?_ _ | refine blk_drew ?_ | refine blk_alloc ?_ _)); refine blk_far ?_ NB111_121.out _; (with_reducible repeat (first | refine blk_drewN ?_ _ | refine blk_drew ?_ | refine blk_alloc ?_ _)); refine blk_far ?_ NB111_121.out _; (with_reducible repeat (first | refine blk_drewN ?_ _ | refine blk_drew ?_ | refine blk_alloc ?_ _)); refine blk_far ?_ NB111_121.out _; (with_reducible repeat (first | refine blk_drewN ?_ _ | refine blk_drew ?_ | refine blk_alloc ?_ _)); exact BK111.out) hb); have n5_ := Aside0.mk (blk_below (g := gb121) (o := .cells #[.int .i64 t115, .slice Ao43 t116.length co43, .int .i64 t119, .int .i64 t120] 61 (0, 0)) (by (with_reducible repeat (first | refine blk_drewN ?_ _ | refine blk_drew ?_ | refine blk_alloc ?_ _)); refine blk_put (cs := #[.int .i64 t115, .slice Ao43 t116.length co43, .int .i64 t119, .int .i64 0]) ?_ 3 _ rfl; (with_reducible repeat (first | refine blk_drewN ?_ _ | refine blk_drew ?_ | refine blk_alloc ?_ _)); refine blk_put (cs := #[.int .i64 t115, .slice Ao43 t116.length co43, .int .i64 0, .int .i64 0]) ?_ 2 _ rfl; (with_reducible repeat (first | refine blk_drewN ?_ _ | refine blk_drew ?_ | refine blk_alloc ?_ _)); refine blk_put (cs := #[.int .i64 t115, .slice none 0 0, .int .i64 0, .int .i64 0]) ?_ 1 _ rfl; (with_reducible repeat (first | refine blk_drewN ?_ _ | refine blk_drew ?_ | refine blk_alloc ?_ _)); refine blk_put (cs := #[.int .i64 0, .slice none 0 0, .int .i64 0, .int .i64 0]) ?_ 0 _ rfl; (with_reducible repeat (first | refine blk_drewN ?_ _ | refine blk_drew ?_ | refine blk_alloc ?_ _)); exact BK121.out) hb); have n6_ := Aside0.mk (below_step (by repeat (first | (with_reducible first | exact HB.out | apply below_alloc | apply pw_below_drewN | apply below_drew1 | refine below_set ?_ GE111.out | refine below_set ?_ GE121.out) | exact HB.out)) hb); clear HO104; clear HO108; clear HO114; clear HO118; clear BK111; clear BK121; clear HB; have HO104 := n0_; have HO108 := n1_; have HO114 := n2_; have HO118 := n3_; have BK111 := n4_; have BK121 := n5_; have HB := n6_; clear n0_ n1_ n2_ n3_ n4_ n5_ n6_; (try clear hb); (try clear hb2); (try clear hk); (try clear hi)) | ((with_reducible refine gate_callee (f := 35) rfl ?_); refine goesL_ (some 33) rfl rfl Try.func35 (by kernel_rfl) rfl #[.slice A1 l1.length c1] rfl (by (try simp only [List.map_toArray, List.map_cons, List.map_nil]); first | done | rfl | (simp only [List.length_drop, List.length_take]; rfl)) ?_; (with_reducible refine (laws_toLogEntryS.calls k _ _ l1 t123 _ ?side1 ?side2 A12.out).mono ?_); (case side1 => repeat (first | exact (Kd.C_below HR1.out HB.out) | (with_reducible refine Kd.C_alloc ?_ _) | (with_reducible refine Kd.C_drewN ?_ _) | (with_reducible refine Kd.C_drew ?_))); (case side2 => exact HC1.out); rintro e w46 ⟨v124, rfl, ho0, hb⟩; refine ⟨_, rfl, ?_⟩; have XBHO125 := Aside0.mk (show ∀ k, (v124 : Value).ownBlock = some k → w37.heap.size ≤ k from fun k e => Nat.le_trans (below_size (by repeat (first | (with_reducible first | exact XH.out | apply below_alloc | apply pw_below_drewN | apply below_drew1 | refine below_set ?_ XK111.out | refine below_set ?_ XK121.out) | exact XH.out))) (Kd.S_base ho0 k e)); have XH2 := Aside0.mk (below_step (by repeat (first | (with_reducible first | exact XH.out | apply below_alloc | apply pw_below_drewN | apply below_drew1 | refine below_set ?_ XK111.out | refine below_set ?_ XK121.out) | exact XH.out)) hb); clear XH; have XH := XH2; clear XH2; have n0_ := Aside0.mk (Kd.S_elder' (by (with_reducible repeat (first | apply Kd.S_alloc | apply Kd.S_drewN | apply Kd.S_drew)); exact HO104.out) (Kd.S_base ho0) hb); have n1_ := Aside0.mk (Kd.V_elder' (by (with_reducible repeat (first | apply Kd.V_alloc | apply Kd.V_drewN | apply Kd.V_drew)); exact HO108.out) (Kd.S_base ho0) hb); have n2_ := Aside0.mk (Kd.S_elder' (by (with_reducible repeat (first | apply Kd.S_alloc | apply Kd.S_drewN | apply Kd.S_drew)); exact HO114.out) (Kd.S_base ho0) hb); have n3_ := Aside0.mk (Kd.R_below (by (with_reducible repeat (first | apply Kd.R_alloc | apply Kd.R_drewN | apply Kd.R_drew)); exact HO118.out) hb); have n4_ := Aside0.mk (Kd.S_lower (Kd.S_new' (Kd.S_new' (Kd.S_new' ho0 (Kd.S_lt (by (with_reducible repeat (first | apply Kd.S_alloc | apply Kd.S_drewN | apply Kd.S_drew)); exact HO104.out))) (Kd.S_lt (by (with_reducible repeat (first | apply Kd.S_alloc | apply Kd.S_drewN | apply Kd.S_drew)); exact HO114.out))) (Kd.R_lt (by (with_reducible repeat (first | apply Kd.R_alloc | apply Kd.R_drewN | apply Kd.R_drew)); exact HO118.out))) (below_size (by repeat (first | (with_reducible first | exact HB.out | apply below_alloc | apply pw_below_drewN | apply below_drew1 | refine below_set ?_ GE111.out | refine below_set ?_ GE121.out) | exact HB.out)))); have n5_ := Aside0.mk (blk_below (g := gb111) (o := .cells #[.int .i64 t105, .slice Ao36 t106.length co36, .int .i64 t109, .int .i64 t110] 61 (0, 0)) (by (with_reducible repeat (first | refine blk_drewN ?_ _ | refine blk_drew ?_ | refine blk_alloc ?_ _)); exact BK111.out) hb); have n6_ := Aside0.mk (blk_below (g := gb121) (o := .cells #[.int .i64 t115, .slice Ao43 t116.length co43, .int .i64 t119, .int .i64 t120] 61 (0, 0)) (by (with_reducible repeat (first | refine blk_drewN ?_ _ | refine blk_drew ?_ | refine blk_alloc ?_ _)); exact BK121.out) hb); have n7_ := Aside0.mk (below_step (by repeat (first | (with_reducible first | exact HB.out | apply below_alloc | apply pw_below_drewN | apply below_drew1 | refine below_set ?_ GE111.out | refine below_set ?_ GE121.out) | exact HB.out)) hb); clear HO104; clear HO108; clear HO114; clear HO118; clear BK111; clear BK121; clear HB; have HO104 := n0_; have HO108 := n1_; have HO114 := n2_; have HO118 := n3_; have HO125 := n4_; have BK111 := n5_; have BK121 := n6_; have HB := n7_; clear n0_ n1_ n2_ n3_ n4_ n5_ n6_ n7_; (try clear hb); (try clear hb2); (try clear hk); (try clear hi); (try clear ho0); obtain ⟨Ao47, co47, eo47⟩ := Kd.S_slice HO125.out; subst eo47) | ((with_reducible refine gate_callee (f := 37) rfl ?_); refine goesL_ (some 34) rfl rfl Try.func37 (by kernel_rfl) rfl #[.slice Ao38 t112.length co38, .slice Ao47 t123.length co47] rfl (by (try simp only [List.map_toArray, List.map_cons, List.map_nil]); first | done | rfl | (simp only [List.length_drop, List.length_take]; rfl)) ?_; (with_reducible refine (laws_eqLogEntryS.calls k _ _ t112 _ _ t123 true _ ?side1 ?side2 ?side3 ?side4 A13.out).mono ?_); (case side1 => repeat (first | exact (Kd.S_reads' HO114.out).2.2 | (with_reducible refine Kd.C_alloc ?_ _) | (with_reducible refine Kd.C_drewN ?_ _) | (with_reducible refine Kd.C_drew ?_))); (case side2 => exact (Kd.S_reads' HO114.out).2.1); (case side3 => repeat (first | exact (Kd.S_reads' HO125.out).2.2 | (with_reducible refine Kd.C_alloc ?_ _) | (with_reducible refine Kd.C_drewN ?_ _) | (with_reducible refine Kd.C_drew ?_))); (case side4 => exact (Kd.S_reads' HO125.out).2.1); rintro e w48 ⟨rfl, hb⟩; refine ⟨_, rfl, ?_⟩; have XH2 := Aside0.mk (below_step (by repeat (first | (with_reducible first | exact XH.out | apply below_alloc | apply pw_below_drewN | apply below_drew1 | refine below_set ?_ XK111.out | refine below_set ?_ XK121.out) | exact XH.out)) hb); clear XH; have XH := XH2; clear XH2; have n0_ := Aside0.mk (Kd.S_below (by (with_reducible repeat (first | apply Kd.S_alloc | apply Kd.S_drewN | apply Kd.S_drew)); exact HO104.out) hb); have n1_ := Aside0.mk (Kd.V_below (by (with_reducible repeat (first | apply Kd.V_alloc | apply Kd.V_drewN | apply Kd.V_drew)); exact HO108.out) hb); have n2_ := Aside0.mk (Kd.S_below (by (with_reducible repeat (first | apply Kd.S_alloc | apply Kd.S_drewN | apply Kd.S_drew)); exact HO114.out) hb); have n3_ := Aside0.mk (Kd.R_below (by (with_reducible repeat (first | apply Kd.R_alloc | apply Kd.R_drewN | apply Kd.R_drew)); exact HO118.out) hb); have n4_ := Aside0.mk (Kd.S_below (by (with_reducible repeat (first | apply Kd.S_alloc | apply Kd.S_drewN | apply Kd.S_drew)); exact HO125.out) hb); have n5_ := Aside0.mk (blk_below (g := gb111) (o := .cells #[.int .i64 t105, .slice Ao36 t106.length co36, .int .i64 t109, .int .i64 t110] 61 (0, 0)) (by (with_reducible repeat (first | refine blk_drewN ?_ _ | refine blk_drew ?_ | refine blk_alloc ?_ _)); exact BK111.out) hb); have n6_ := Aside0.mk (blk_below (g := gb121) (o := .cells #[.int .i64 t115, .slice Ao43 t116.length co43, .int .i64 t119, .int .i64 t120] 61 (0, 0)) (by (with_reducible repeat (first | refine blk_drewN ?_ _ | refine blk_drew ?_ | refine blk_alloc ?_ _)); exact BK121.out) hb); have n7_ := Aside0.mk (below_step (by repeat (first | (with_reducible first | exact HB.out | apply below_alloc | apply pw_below_drewN | apply below_drew1 | refine below_set ?_ GE111.out | refine below_set ?_ GE121.out) | exact HB.out)) hb); clear HO104; clear HO108; clear HO114; clear HO118; clear HO125; clear BK111; clear BK121; clear HB; have HO104 := n0_; have HO108 := n1_; have HO114 := n2_; have HO118 := n3_; have HO125 := n4_; have BK111 := n5_; have BK121 := n6_; have HB := n7_; clear n0_ n1_ n2_ n3_ n4_ n5_ n6_ n7_; (try clear hb); (try clear hb2); (try clear hk); (try clear hi)) | ((with_reducible refine gate_callee (f := 38) rfl ?_); refine goesL_ (some 38) rfl rfl Try.func38 (by kernel_rfl) rfl #[.slice Ao38 t112.length co38, .int .i64 1] rfl (by (try simp only [List.map_toArray, List.map_cons, List.map_nil]); first | done | rfl | (simp only [List.length_drop, List.length_take]; rfl)) ?_; (refine (laws_markLogEntryS.callsR (fun k => w34.heap.size ≤ k ∧ k < w37.heap.size) _ _ t112 1 _ _ (Kd.R_below XR.out (by repeat (first | (with_reducible first | exact XH.out | apply below_alloc | apply pw_below_drewN | apply below_drew1 | refine below_set ?_ XK111.out | refine below_set ?_ XK121.out) | exact XH.out))) A15.out).mono ?_); rintro e w49 ⟨rfl, hm⟩; refine ⟨_, rfl, ?_⟩; have XLHO104 := Aside0.mk (fun k e => Nat.lt_of_lt_of_le (Kd.S_lt (by (with_reducible repeat (first | apply Kd.S_alloc | apply Kd.S_drewN | apply Kd.S_drew)); exact HO104.out) k e) hm.size); have XLHO114 := Aside0.mk (fun k e => Nat.lt_of_lt_of_le (Kd.S_lt (by (with_reducible repeat (first | apply Kd.S_alloc | apply Kd.S_drewN | apply Kd.S_drew)); exact HO114.out) k e) hm.size); have XLHO125 := Aside0.mk (fun k e => Nat.lt_of_lt_of_le (Kd.S_lt (by (with_reducible repeat (first | apply Kd.S_alloc | apply Kd.S_drewN | apply Kd.S_drew)); exact HO125.out) k e) hm.size); have XM := Aside0.mk (Nat.le_refl w49.heap.size); have nv0_ := Aside0.mk (V_mono_as HO108.out (Kd.V_kept (Kd.V_below XVHO108.out (by repeat (first | (with_reducible first | exact XH.out | apply below_alloc | apply pw_below_drewN | apply below_drew1 | refine below_set ?_ XK111.out | refine below_set ?_ XK121.out) | exact XH.out))) hm.keptS (fun k hk hP => absurd hP.1 (Nat.not_le.2 (by have h_ := hk.2; simpa only [size_setCell_, size_drewN_] using h_)))) (fun k hk => by (have hk2 := hk.2; simp only [size_setCell_, size_drewN_] at hk2; have hk1 := hk.1); (repeat' apply And.intro) <;> first | exact hk1 | exact hk1.1 | exact hk1.2 | exact hk1.1.1 | exact hk1.1.2 | exact hk1.2.1 | exact hk1.2.2 | exact fun e_ => absurd (XBHO114.out k e_.symm) (Nat.not_le.2 hk2) | exact fun e_ => absurd (Nat.le_trans XS.out (XBHO118.out k e_.symm)) (Nat.not_le.2 hk2) | exact fun e_ => absurd (Nat.le_trans XS.out (XBHO125.out k e_.symm)) (Nat.not_le.2 hk2) | exact fun e_ => absurd (Nat.le_trans XS.out XK121.out) (Nat.not_le.2 (e_ ▸ hk2)))); have nr0_ := Aside0.mk (Kd.R_reok rfl (Kd.R_kept (Kd.R_tight rfl (by (with_reducible repeat (first | apply Kd.R_alloc | apply Kd.R_drewN | apply Kd.R_drew)); exact HO118.out)) hm.keptS (fun k e_ hP => absurd hP.2 (Nat.not_lt.2 (XBHO118.out k e_.symm)))) (fun k e_ => HO118.out.1 k e_)); have nk0_ := Aside0.mk (blk_kept (by (with_reducible repeat (first | refine blk_drewN ?_ _ | refine blk_drew ?_ | refine blk_alloc ?_ _)); exact BK111.out) hm.keptS (fun hP => absurd hP.1 (Nat.not_le.2 XK111.out))); have nk1_ := Aside0.mk (blk_kept (by (with_reducible repeat (first | refine blk_drewN ?_ _ | refine blk_drew ?_ | refine blk_alloc ?_ _)); exact BK121.out) hm.keptS (fun hP => absurd hP.2 (Nat.not_lt.2 XK121.out))); have nb_ := Aside0.mk (Below.trans (B := w.heap.size) (by repeat (first | (with_reducible first | exact HB.out | apply below_alloc | apply pw_below_drewN | apply below_drew1 | refine below_set ?_ GE111.out | refine below_set ?_ GE121.out) | exact HB.out)) (hm.bel (below_size (by repeat (first | (with_reducible first | exact HB.out | apply below_alloc | apply pw_below_drewN | apply below_drew1 | refine below_set ?_ GE111.out | refine below_set ?_ GE121.out) | exact HB.out))) (fun k hk => Nat.le_trans XP.out hk.1))); clear HO108; clear HO118; clear BK111; clear BK121; clear HB; have HO108 := nv0_; have HO118 := nr0_; have BK111 := nk0_; have BK121 := nk1_; have HB := nb_; clear nv0_ nr0_ nk0_ nk1_ nb_; clear hm XR XH; have hcz50_0 : w49.cell? ⟨gb121, 0, none⟩ = some (.int .i64 t115) := (blk_cell BK121.out 0).trans rfl; have hcz50_1 : w49.cell? ⟨gb121, 1, none⟩ = some (.slice Ao43 t116.length co43) := (blk_cell BK121.out 1).trans rfl; have hcz50_2 : w49.cell? ⟨gb121, 2, none⟩ = some (.int .i64 t119) := (blk_cell BK121.out 2).trans rfl; have hcz50_3 : w49.cell? ⟨gb121, 3, none⟩ = some (.int .i64 t120) := (blk_cell BK121.out 3).trans rfl; have hcz51_0 : w49.cell? ⟨gb111, 0, none⟩ = some (.int .i64 t105) := (blk_cell BK111.out 0).trans rfl; have hcz51_1 : w49.cell? ⟨gb111, 1, none⟩ = some (.slice Ao36 t106.length co36) := (blk_cell BK111.out 1).trans rfl; have hcz51_2 : w49.cell? ⟨gb111, 2, none⟩ = some (.int .i64 t109) := (blk_cell BK111.out 2).trans rfl; have hcz51_3 : w49.cell? ⟨gb111, 3, none⟩ = some (.int .i64 t110) := (blk_cell BK111.out 3).trans rfl) | (go_at_call 57; (with_reducible refine (laws_eqLogHead.calls k t115 _ _ t116 t119 t120 t105 _ _ t106 t109 t110 true _ ?side1 ?side2 ?side3 ?side4 A17.out).mono ?_); (case side1 => repeat (first | exact (Kd.R_reads' HO118.out).2.2 | (with_reducible refine Kd.C_alloc ?_ _) | (with_reducible refine Kd.C_drewN ?_ _) | (with_reducible refine Kd.C_drew ?_))); (case side2 => exact (Kd.R_reads' HO118.out).2.1); (case side3 => repeat (first | exact (Kd.V_reads' HO108.out).2.2 | (with_reducible refine Kd.C_alloc ?_ _) | (with_reducible refine Kd.C_drewN ?_ _) | (with_reducible refine Kd.C_drew ?_))); (case side4 => exact (Kd.V_reads' HO108.out).2.1); rintro e w52 ⟨rfl, hb⟩; have n1_ := Aside0.mk (Kd.V_below (by (with_reducible repeat (first | apply Kd.V_alloc | apply Kd.V_drewN | apply Kd.V_drew)); exact HO108.out) hb); have n3_ := Aside0.mk (Kd.R_below (by (with_reducible repeat (first | apply Kd.R_alloc | apply Kd.R_drewN | apply Kd.R_drew)); exact HO118.out) hb); have n5_ := Aside0.mk (blk_below (g := gb111) (o := .cells #[.int .i64 t105, .slice Ao36 t106.length co36, .int .i64 t109, .int .i64 t110] 61 (0, 0)) (by (with_reducible repeat (first | refine blk_drewN ?_ _ | refine blk_drew ?_ | refine blk_alloc ?_ _)); exact BK111.out) hb); have n6_ := Aside0.mk (blk_below (g := gb121) (o := .cells #[.int .i64 t115, .slice Ao43 t116.length co43, .int .i64 t119, .int .i64 t120] 61 (0, 0)) (by (with_reducible repeat (first | refine blk_drewN ?_ _ | refine blk_drew ?_ | refine blk_alloc ?_ _)); exact BK121.out) hb); have n7_ := Aside0.mk (below_step (by repeat (first | (with_reducible first | exact HB.out | apply below_alloc | apply pw_below_drewN | apply below_drew1 | refine below_set ?_ GE111.out | refine below_set ?_ GE121.out) | exact HB.out)) hb); have XM2 := Aside0.mk (Nat.le_trans XM.out (by have h_ := hb.size; simpa only [size_setCell_, size_drewN_] using h_)); clear XM; have XM := XM2; clear XM2; clear HO108; clear HO118; clear BK111; clear BK121; clear HB; have HO108 := n1_; have HO118 := n3_; have BK111 := n5_; have BK121 := n6_; have HB := n7_; clear n1_ n3_ n5_ n6_ n7_; (try clear hb); (try clear hb2); (try clear hk); (try clear hi); have hcz53_0 : w52.cell? ⟨gb121, 0, none⟩ = some (.int .i64 t115) := (blk_cell BK121.out 0).trans rfl; have hcz53_1 : w52.cell? ⟨gb121, 1, none⟩ = some (.slice Ao43 t116.length co43) := (blk_cell BK121.out 1).trans rfl; have hcz53_2 : w52.cell? ⟨gb121, 2, none⟩ = some (.int .i64 t119) := (blk_cell BK121.out 2).trans rfl; have hcz53_3 : w52.cell? ⟨gb121, 3, none⟩ = some (.int .i64 t120) := (blk_cell BK121.out 3).trans rfl; have hfz53_0 := blk_frozen BK121.out 0; have hfz53_1 := blk_frozen BK121.out 1; have hfz53_2 := blk_frozen BK121.out 2; have hfz53_3 := blk_frozen BK121.out 3) | ((with_reducible refine gate_callee (f := 60) rfl ?_); refine goesL_ (some 49) rfl rfl Try.func60 (by kernel_rfl) rfl #[.agg #[.int .i64 t115, .slice Ao43 t116.length co43, .int .i64 t119, .int .i64 t120], .int .i64 1] rfl (by (try simp only [List.map_toArray, List.map_cons, List.map_nil]); first | done | rfl | (simp only [List.length_drop, List.length_take]; rfl)) ?_; (with_reducible refine (laws_markLogHead.calls k t115 (fun k_ => some k_ = (.slice Ao43 t116.length co43 : Value).ownBlock) (.slice Ao43 t116.length co43) t116 t119 t120 1 t129 t130 w _ ?side1 ?side2 A19.out).mono ?_); (case side1 => repeat (first | (with_reducible first | exact HB.out | apply below_alloc | apply pw_below_drewN | apply below_drew1 | refine below_set ?_ GE111.out | refine below_set ?_ GE121.out) | exact HB.out)); (case side2 => exact Kd.R_tight rfl HO118.out); rintro e w54 ⟨rfl, hy0, hb, hkp⟩; refine ⟨_, rfl, ?_⟩; have n1_ := Aside0.mk (Kd.V_mono (ok' := fun k_ => some k_ ≠ (.slice Ao32 t102.length co32 : Value).ownBlock ∧ some k_ ≠ (.slice Ao38 t112.length co38 : Value).ownBlock ∧ some k_ ≠ (.slice Ao43 t116.length co43 : Value).ownBlock ∧ some k_ ≠ (.slice Ao47 t123.length co47 : Value).ownBlock ∧ k_ ≠ gb111 ∧ k_ ≠ gb121) (Kd.V_keptB (HO108.out) hkp (fun k_ hk_ hs_ => absurd hs_ (by first | exact hk_.1.1.2 | ((try simp only [and_assoc] at hk_); first | exact hk_.1 | exact hk_.2.1 | exact hk_.2.2.1 | exact hk_.2.2.2.1 | exact hk_.2.2.2.2.1 | exact hk_.2.2.2.2.2.1 | exact hk_.2.2.2.2.2.2.1 | exact hk_.2.2.2.2.2.2.2.1 | exact hk_.2.2.2.2.2.2.2.2.1 | exact hk_.2.2.2.2.2.2.2.2.2.1 | exact hk_.2.2.2.2.2.2.2.2.2.2.1 | exact hk_.2.2.2.2.2.2.2.2.2.2.2.1 | exact hk_.2.2.2.2.2.2.2.2.2.2.2.2.1 | exact hk_.2.2.2.2.2.2.2.2.2.2.2.2.2.1 | exact hk_.2.2.2.2.2.2.2.2.2.2.2.2.2.2.1 | exact hk_.2.2.2.2.2.2.2.2.2.2.2.2.2.2.2.1 | exact hk_.2 | exact hk_.2.2 | exact hk_.2.2.2 | exact hk_.2.2.2.2 | exact hk_.2.2.2.2.2 | exact hk_.2.2.2.2.2.2 | exact hk_.2.2.2.2.2.2.2 | exact hk_.2.2.2.2.2.2.2.2 | exact hk_.2.2.2.2.2.2.2.2.2 | exact hk_.2.2.2.2.2.2.2.2.2.2 | exact hk_.2.2.2.2.2.2.2.2.2.2.2 | exact hk_.2.2.2.2.2.2.2.2.2.2.2.2 | exact hk_.2.2.2.2.2.2.2.2.2.2.2.2.2 | exact hk_.2.2.2.2.2.2.2.2.2.2.2.2.2.2 | exact hk_.2.2.2.2.2.2.2.2.2.2.2.2.2.2.2)))) (fun k_ hk_ => by first | exact ⟨hk_.1.1.1.1.1.1, hk_.1.1.1.1.2, hk_.1.1.1.2, hk_.1.2, hk_.1.1.1.1.1.2, hk_.1.1.2⟩ | ((try simp only [and_assoc] at hk_); (try simp only [and_assoc]); (repeat' refine And.intro ?_ ?_) <;> (first | exact hk_.1 | exact hk_.2.1 | exact hk_.2.2.1 | exact hk_.2.2.2.1 | exact hk_.2.2.2.2.1 | exact hk_.2.2.2.2.2.1 | exact hk_.2.2.2.2.2.2.1 | exact hk_.2.2.2.2.2.2.2.1 | exact hk_.2.2.2.2.2.2.2.2.1 | exact hk_.2.2.2.2.2.2.2.2.2.1 | exact hk_.2.2.2.2.2.2.2.2.2.2.1 | exact hk_.2.2.2.2.2.2.2.2.2.2.2.1 | exact hk_.2.2.2.2.2.2.2.2.2.2.2.2.1 | exact hk_.2.2.2.2.2.2.2.2.2.2.2.2.2.1 | exact hk_.2.2.2.2.2.2.2.2.2.2.2.2.2.2.1 | exact hk_.2.2.2.2.2.2.2.2.2.2.2.2.2.2.2.1 | exact hk_.2 | exact hk_.2.2 | exact hk_.2.2.2 | exact hk_.2.2.2.2 | exact hk_.2.2.2.2.2 | exact hk_.2.2.2.2.2.2 | exact hk_.2.2.2.2.2.2.2 | exact hk_.2.2.2.2.2.2.2.2 | exact hk_.2.2.2.2.2.2.2.2.2 | exact hk_.2.2.2.2.2.2.2.2.2.2 | exact hk_.2.2.2.2.2.2.2.2.2.2.2 | exact hk_.2.2.2.2.2.2.2.2.2.2.2.2 | exact hk_.2.2.2.2.2.2.2.2.2.2.2.2.2 | exact hk_.2.2.2.2.2.2.2.2.2.2.2.2.2.2 | exact hk_.2.2.2.2.2.2.2.2.2.2.2.2.2.2.2)))); have n2_ := Aside0.mk (blk_kept (by (with_reducible repeat (first | refine blk_drewN ?_ _ | refine blk_drew ?_ | refine blk_alloc ?_ _)); exact BK111.out) hkp (fun hs_ => (fun e_ => (Kd.R_ne HO118.out BK111.out (by decide)) e_) hs_)); have n4_ := Aside0.mk (Kd.R_reok rfl hy0 (fun k_ e_ => HO118.out.1 k_ e_)); have n5_ := Aside0.mk (blk_kept (by (with_reducible repeat (first | refine blk_drewN ?_ _ | refine blk_drew ?_ | refine blk_alloc ?_ _)); exact BK121.out) hkp (fun hs_ => (fun e_ => (Kd.R_ne HO118.out BK121.out (by decide)) e_) hs_)); have n7_ := Aside0.mk (hb); have XM2 := Aside0.mk (Nat.le_trans XM.out (by have h_ := hkp.1; simpa only [size_setCell_, size_drewN_] using h_)); clear XM; have XM := XM2; clear XM2; clear HO108; clear BK111; clear HO118; clear BK121; clear HB; have HO108 := n1_; have BK111 := n2_; have HO118 := n4_; have BK121 := n5_; have HB := n7_; clear n1_ n2_ n4_ n5_ n7_; (try clear hb); (try clear hkp); (try clear hy0); have hcz55_0 : w54.cell? ⟨gb121, 0, none⟩ = some (.int .i64 t115) := (blk_cell BK121.out 0).trans rfl; have hcz55_1 : w54.cell? ⟨gb121, 1, none⟩ = some (.slice Ao43 t116.length co43) := (blk_cell BK121.out 1).trans rfl; have hcz55_2 : w54.cell? ⟨gb121, 2, none⟩ = some (.int .i64 t119) := (blk_cell BK121.out 2).trans rfl; have hcz55_3 : w54.cell? ⟨gb121, 3, none⟩ = some (.int .i64 t120) := (blk_cell BK121.out 3).trans rfl; have hfz55_0 := blk_frozen BK121.out 0; have hfz55_1 := blk_frozen BK121.out 1; have hfz55_2 := blk_frozen BK121.out 2; have hfz55_3 := blk_frozen BK121.out 3) | ((with_reducible refine gate_callee (f := 61) rfl ?_); refine goesL_ (some 52) rfl rfl Try.func61 (by kernel_rfl) rfl #[.agg #[.int .i64 t115, .slice Ao43 t130.length co43, .int .i64 t119, .int .i64 t120], .int .i64 1] rfl (by (try simp only [List.map_toArray, List.map_cons, List.map_nil]); first | done | (rw [show t130.length = t116.length from (Kd.R_reads' HO118.out).1.symm] <;> rfl) | rfl | (simp only [List.length_drop, List.length_take]; rfl)) ?_; (with_reducible refine (laws_heldLogHead.calls k t115 _ _ t130 t119 t120 1 t131 _ ?side1 ?side2 A20.out).mono ?_); (case side1 => repeat (first | exact (Kd.R_reads' HO118.out).2.2 | (with_reducible refine Kd.C_alloc ?_ _) | (with_reducible refine Kd.C_drewN ?_ _) | (with_reducible refine Kd.C_drew ?_))); (case side2 => rw [show t130.length = t116.length from (Kd.R_reads' HO118.out).1.symm]; exact (Kd.R_reads' HO118.out).2.1); rintro e w56 ⟨rfl, hb⟩; refine ⟨_, rfl, ?_⟩; have n1_ := Aside0.mk (Kd.V_below (by (with_reducible repeat (first | apply Kd.V_alloc | apply Kd.V_drewN | apply Kd.V_drew)); exact HO108.out) hb); have n3_ := Aside0.mk (Kd.R_below (by (with_reducible repeat (first | apply Kd.R_alloc | apply Kd.R_drewN | apply Kd.R_drew)); exact HO118.out) hb); have n5_ := Aside0.mk (blk_below (g := gb111) (o := .cells #[.int .i64 t105, .slice Ao36 t106.length co36, .int .i64 t109, .int .i64 t110] 61 (0, 0)) (by (with_reducible repeat (first | refine blk_drewN ?_ _ | refine blk_drew ?_ | refine blk_alloc ?_ _)); exact BK111.out) hb); have n6_ := Aside0.mk (blk_below (g := gb121) (o := .cells #[.int .i64 t115, .slice Ao43 t116.length co43, .int .i64 t119, .int .i64 t120] 61 (0, 0)) (by (with_reducible repeat (first | refine blk_drewN ?_ _ | refine blk_drew ?_ | refine blk_alloc ?_ _)); exact BK121.out) hb); have n7_ := Aside0.mk (below_step (by repeat (first | (with_reducible first | exact HB.out | apply below_alloc | apply pw_below_drewN | apply below_drew1 | refine below_set ?_ GE111.out | refine below_set ?_ GE121.out) | exact HB.out)) hb); have XM2 := Aside0.mk (Nat.le_trans XM.out (by have h_ := hb.size; simpa only [size_setCell_, size_drewN_] using h_)); clear XM; have XM := XM2; clear XM2; clear HO108; clear HO118; clear BK111; clear BK121; clear HB; have HO108 := n1_; have HO118 := n3_; have BK111 := n5_; have BK121 := n6_; have HB := n7_; clear n1_ n3_ n5_ n6_ n7_; (try clear hb); (try clear hb2); (try clear hk); (try clear hi)) | ((with_reducible refine gate_callee (f := 35) rfl ?_); refine goesL_ (some 60) rfl rfl Try.func35 (by kernel_rfl) rfl #[.slice A1 l1.length c1] rfl (by (try simp only [List.map_toArray, List.map_cons, List.map_nil]); first | done | rfl | (simp only [List.length_drop, List.length_take]; rfl)) ?_; (with_reducible refine (laws_toLogEntryS.calls k _ _ l1 t132 _ ?side1 ?side2 A23.out).mono ?_); (case side1 => repeat (first | exact (Kd.C_below HR1.out HB.out) | (with_reducible refine Kd.C_alloc ?_ _) | (with_reducible refine Kd.C_drewN ?_ _) | (with_reducible refine Kd.C_drew ?_))); (case side2 => exact HC1.out); rintro e w57 ⟨v133, rfl, ho0, hb⟩; refine ⟨_, rfl, ?_⟩; have n1_ := Aside0.mk (Kd.V_elder' (by (with_reducible repeat (first | apply Kd.V_alloc | apply Kd.V_drewN | apply Kd.V_drew)); exact HO108.out) (Kd.S_base ho0) hb); have n3_ := Aside0.mk (Kd.R_below (by (with_reducible repeat (first | apply Kd.R_alloc | apply Kd.R_drewN | apply Kd.R_drew)); exact HO118.out) hb); have n5_ := Aside0.mk (Kd.S_lower (Kd.S_new' (Kd.S_new' (Kd.S_new' (Kd.S_new' ho0 (fun k e => by have h_ := Nat.lt_of_lt_of_le (XLHO104.out k e) XM.out; simpa only [size_setCell_, size_drewN_] using h_)) (fun k e => by have h_ := Nat.lt_of_lt_of_le (XLHO114.out k e) XM.out; simpa only [size_setCell_, size_drewN_] using h_)) (Kd.R_lt (by (with_reducible repeat (first | apply Kd.R_alloc | apply Kd.R_drewN | apply Kd.R_drew)); exact HO118.out))) (fun k e => by have h_ := Nat.lt_of_lt_of_le (XLHO125.out k e) XM.out; simpa only [size_setCell_, size_drewN_] using h_)) (below_size (by repeat (first | (with_reducible first | exact HB.out | apply below_alloc | apply pw_below_drewN | apply below_drew1 | refine below_set ?_ GE111.out | refine below_set ?_ GE121.out) | exact HB.out)))); have n6_ := Aside0.mk (blk_below (g := gb111) (o := .cells #[.int .i64 t105, .slice Ao36 t106.length co36, .int .i64 t109, .int .i64 t110] 61 (0, 0)) (by (with_reducible repeat (first | refine blk_drewN ?_ _ | refine blk_drew ?_ | refine blk_alloc ?_ _)); exact BK111.out) hb); have n7_ := Aside0.mk (blk_below (g := gb121) (o := .cells #[.int .i64 t115, .slice Ao43 t116.length co43, .int .i64 t119, .int .i64 t120] 61 (0, 0)) (by (with_reducible repeat (first | refine blk_drewN ?_ _ | refine blk_drew ?_ | refine blk_alloc ?_ _)); exact BK121.out) hb); have n8_ := Aside0.mk (below_step (by repeat (first | (with_reducible first | exact HB.out | apply below_alloc | apply pw_below_drewN | apply below_drew1 | refine below_set ?_ GE111.out | refine below_set ?_ GE121.out) | exact HB.out)) hb); have XM2 := Aside0.mk (Nat.le_trans XM.out (by have h_ := hb.size; simpa only [size_setCell_, size_drewN_] using h_)); clear XM; have XM := XM2; clear XM2; clear HO108; clear HO118; clear BK111; clear BK121; clear HB; have HO108 := n1_; have HO118 := n3_; have HO134 := n5_; have BK111 := n6_; have BK121 := n7_; have HB := n8_; clear n1_ n3_ n5_ n6_ n7_ n8_; (try clear hb); (try clear hb2); (try clear hk); (try clear hi); (try clear ho0); obtain ⟨Ao58, co58, eo58⟩ := Kd.S_slice HO134.out; subst eo58) | ((with_reducible refine gate_callee (f := 59) rfl ?_); refine goesL_ (some 61) rfl rfl Try.func59 (by kernel_rfl) rfl #[.int .i64 a0, .slice Ao58 t132.length co58] rfl (by (try simp only [List.map_toArray, List.map_cons, List.map_nil]); first | done | rfl | (simp only [List.length_drop, List.length_take]; rfl)) ?_; (with_reducible refine (impl_SignHead.calls k a0 _ _ t132 t135 t136 t139 t140 _ ?side1 ?side2 A24.out).mono ?_); (case side1 => repeat (first | exact (Kd.S_reads' HO134.out).2.2 | (with_reducible refine Kd.C_alloc ?_ _) | (with_reducible refine Kd.C_drewN ?_ _) | (with_reducible refine Kd.C_drew ?_))); (case side2 => exact (Kd.S_reads' HO134.out).2.1); rintro e w59 ⟨v137, rfl, ho0, hb⟩; refine ⟨_, rfl, ?_⟩; have n1_ := Aside0.mk (Kd.V_elder' (by (with_reducible repeat (first | apply Kd.V_alloc | apply Kd.V_drewN | apply Kd.V_drew)); exact HO108.out) (Kd.R_base ho0) hb); have n3_ := Aside0.mk (Kd.R_elder' (by (with_reducible repeat (first | apply Kd.R_alloc | apply Kd.R_drewN | apply Kd.R_drew)); exact HO118.out) (Kd.R_base ho0) hb); have n5_ := Aside0.mk (Kd.S_elder' (by (with_reducible repeat (first | apply Kd.S_alloc | apply Kd.S_drewN | apply Kd.S_drew)); exact HO134.out) (Kd.R_base ho0) hb); have n6_ := Aside0.mk (Kd.R_lower (Kd.R_new' ho0 (Kd.R_lt (by (with_reducible repeat (first | apply Kd.R_alloc | apply Kd.R_drewN | apply Kd.R_drew)); exact HO118.out))) (below_size (by repeat (first | (with_reducible first | exact HB.out | apply below_alloc | apply pw_below_drewN | apply below_drew1 | refine below_set ?_ GE111.out | refine below_set ?_ GE121.out) | exact HB.out)))); have n7_ := Aside0.mk (blk_below (g := gb111) (o := .cells #[.int .i64 t105, .slice Ao36 t106.length co36, .int .i64 t109, .int .i64 t110] 61 (0, 0)) (by (with_reducible repeat (first | refine blk_drewN ?_ _ | refine blk_drew ?_ | refine blk_alloc ?_ _)); exact BK111.out) hb); have n8_ := Aside0.mk (blk_below (g := gb121) (o := .cells #[.int .i64 t115, .slice Ao43 t116.length co43, .int .i64 t119, .int .i64 t120] 61 (0, 0)) (by (with_reducible repeat (first | refine blk_drewN ?_ _ | refine blk_drew ?_ | refine blk_alloc ?_ _)); exact BK121.out) hb); have n9_ := Aside0.mk (below_step (by repeat (first | (with_reducible first | exact HB.out | apply below_alloc | apply pw_below_drewN | apply below_drew1 | refine below_set ?_ GE111.out | refine below_set ?_ GE121.out) | exact HB.out)) hb); have XM2 := Aside0.mk (Nat.le_trans XM.out (by have h_ := hb.size; simpa only [size_setCell_, size_drewN_] using h_)); clear XM; have XM := XM2; clear XM2; clear HO108; clear HO118; clear HO134; clear BK111; clear BK121; clear HB; have HO108 := n1_; have HO118 := n3_; have HO134 := n5_; have HO138 := n6_; have BK111 := n7_; have BK121 := n8_; have HB := n9_; clear n1_ n3_ n5_ n6_ n7_ n8_ n9_; (try clear hb); (try clear hb2); (try clear hk); (try clear hi); (try clear ho0)) | ((with_reducible refine gate_dst (N := 12) rfl ?_); refine box_event ?hg (N := 12) ?hd (cs := #[.int .i64 0, .slice none 0 0, .int .i64 0, .int .i64 0]) (t := 61) ?hr ?_; (case hd => rfl); (case hg => rfl); (case hr => first | (go_simp; done) | (go_simp; rfl)); intro gb141 hg w60 hbox hb; have n1_ := Aside0.mk (Kd.V_below (Kd.V_elderB (by (with_reducible repeat (first | apply Kd.V_alloc | apply Kd.V_drewN | apply Kd.V_drew)); exact HO108.out) gb141 (Nat.le_of_eq hg.symm)) hb); have n3_ := Aside0.mk (Kd.R_below (by (with_reducible repeat (first | apply Kd.R_alloc | apply Kd.R_drewN | apply Kd.R_drew)); exact HO118.out) hb); have n5_ := Aside0.mk (Kd.S_below (by (with_reducible repeat (first | apply Kd.S_alloc | apply Kd.S_drewN | apply Kd.S_drew)); exact HO134.out) hb); have n6_ := Aside0.mk (Kd.R_below (by (with_reducible repeat (first | apply Kd.R_alloc | apply Kd.R_drewN | apply Kd.R_drew)); exact HO138.out) hb); have n7_ := Aside0.mk (blk_below (g := gb111) (o := .cells #[.int .i64 t105, .slice Ao36 t106.length co36, .int .i64 t109, .int .i64 t110] 61 (0, 0)) (by (with_reducible repeat (first | refine blk_drewN ?_ _ | refine blk_drew ?_ | refine blk_alloc ?_ _)); exact BK111.out) hb); have n8_ := Aside0.mk (blk_below (g := gb121) (o := .cells #[.int .i64 t115, .slice Ao43 t116.length co43, .int .i64 t119, .int .i64 t120] 61 (0, 0)) (by (with_reducible repeat (first | refine blk_drewN ?_ _ | refine blk_drew ?_ | refine blk_alloc ?_ _)); exact BK121.out) hb); have n9_ := Aside0.mk (below_step (by repeat (first | (with_reducible first | exact HB.out | apply below_alloc | apply pw_below_drewN | apply below_drew1 | refine below_set ?_ GE111.out | refine below_set ?_ GE121.out) | exact HB.out)) hb); have n10_ := Aside0.mk (hbox); have n11_ := Aside0.mk ((by rw [hg]; exact (below_size (by repeat (first | (with_reducible first | exact HB.out | apply below_alloc | apply pw_below_drewN | apply below_drew1 | refine below_set ?_ GE111.out | refine below_set ?_ GE121.out) | exact HB.out))) : w.heap.size ≤ gb141)); have n12_ := Aside0.mk ((by rw [hg]; exact (below_size (by repeat (first | (with_reducible first | exact HB.out | apply below_alloc | apply pw_below_drewN | apply below_drew1 | refine below_set ?_ GE111.out | refine below_set ?_ GE121.out) | exact HB.out))) : w.heap.size ≤ gb141)); have n13_ := Aside0.mk ((by rw [hg]; exact Nat.ne_of_lt (blk_lt (g := gb111) (o := .cells #[.int .i64 t105, .slice Ao36 t106.length co36, .int .i64 t109, .int .i64 t110] 61 (0, 0)) (by (with_reducible repeat (first | refine blk_drewN ?_ _ | refine blk_drew ?_ | refine blk_alloc ?_ _)); exact BK111.out)) : gb111 ≠ gb141)); have n14_ := Aside0.mk ((by rw [hg]; exact Nat.ne_of_gt (blk_lt (g := gb111) (o := .cells #[.int .i64 t105, .slice Ao36 t106.length co36, .int .i64 t109, .int .i64 t110] 61 (0, 0)) (by (with_reducible repeat (first | refine blk_drewN ?_ _ | refine blk_drew ?_ | refine blk_alloc ?_ _)); exact BK111.out)) : gb141 ≠ gb111)); have n15_ := Aside0.mk ((by rw [hg]; exact Nat.ne_of_lt (blk_lt (g := gb121) (o := .cells #[.int .i64 t115, .slice Ao43 t116.length co43, .int .i64 t119, .int .i64 t120] 61 (0, 0)) (by (with_reducible repeat (first | refine blk_drewN ?_ _ | refine blk_drew ?_ | refine blk_alloc ?_ _)); exact BK121.out)) : gb121 ≠ gb141)); have n16_ := Aside0.mk ((by rw [hg]; exact Nat.ne_of_gt (blk_lt (g := gb121) (o := .cells #[.int .i64 t115, .slice Ao43 t116.length co43, .int .i64 t119, .int .i64 t120] 61 (0, 0)) (by (with_reducible repeat (first | refine blk_drewN ?_ _ | refine blk_drew ?_ | refine blk_alloc ?_ _)); exact BK121.out)) : gb141 ≠ gb121)); have XM2 := Aside0.mk (Nat.le_trans XM.out (by have h_ := hb.size; simpa only [size_setCell_, size_drewN_] using h_)); clear XM; have XM := XM2; clear XM2; clear HO108; clear HO118; clear HO134; clear HO138; clear BK111; clear BK121; clear HB; have HO108 := n1_; have HO118 := n3_; have HO134 := n5_; have HO138 := n6_; have BK111 := n7_; have BK121 := n8_; have HB := n9_; have BK141 := n10_; have GW141 := n11_; have GE141 := n12_; have NB111_141 := n13_; have NB141_111 := n14_; have NB121_141 := n15_; have NB141_121 := n16_; clear n1_ n3_ n5_ n6_ n7_ n8_ n9_ n10_ n11_ n12_ n13_ n14_ n15_ n16_; clear hb hbox hg; have hnb61 := NB141_111.out; have hnc61 := NB111_141.out; have hnb62 := NB141_121.out; have hnc62 := NB121_141.out; have hcz63_0 : w60.cell? ⟨gb141, 0, none⟩ = some (.int .i64 0) := (blk_cell BK141.out 0).trans rfl; have hcz63_1 : w60.cell? ⟨gb141, 1, none⟩ = some (.slice none 0 0) := (blk_cell BK141.out 1).trans rfl; have hcz63_2 : w60.cell? ⟨gb141, 2, none⟩ = some (.int .i64 0) := (blk_cell BK141.out 2).trans rfl; have hcz63_3 : w60.cell? ⟨gb141, 3, none⟩ = some (.int .i64 0) := (blk_cell BK141.out 3).trans rfl; have hfz63_0 := blk_frozen BK141.out 0; have hfz63_1 := blk_frozen BK141.out 1; have hfz63_2 := blk_frozen BK141.out 2; have hfz63_3 := blk_frozen BK141.out 3; obtain ⟨Ao64, co64, eo64⟩ := Kd.R_slice HO138.out; subst eo64; have hcz65_0 : w60.cell? ⟨gb111, 0, none⟩ = some (.int .i64 t105) := (blk_cell BK111.out 0).trans rfl; have hcz65_1 : w60.cell? ⟨gb111, 1, none⟩ = some (.slice Ao36 t106.length co36) := (blk_cell BK111.out 1).trans rfl; have hcz65_2 : w60.cell? ⟨gb111, 2, none⟩ = some (.int .i64 t109) := (blk_cell BK111.out 2).trans rfl; have hcz65_3 : w60.cell? ⟨gb111, 3, none⟩ = some (.int .i64 t110) := (blk_cell BK111.out 3).trans rfl; have hfz65_0 := blk_frozen BK111.out 0; have hfz65_1 := blk_frozen BK111.out 1; have hfz65_2 := blk_frozen BK111.out 2; have hfz65_3 := blk_frozen BK111.out 3) | ((with_reducible refine gate_callee (f := 57) rfl ?_); refine goesL_ (some 64) rfl rfl Try.func57 (by kernel_rfl) rfl #[.agg #[.int .i64 t135, .slice Ao64 t136.length co64, .int .i64 t139, .int .i64 t140], .agg #[.int .i64 t105, .slice Ao36 t106.length co36, .int .i64 t109, .int .i64 t110]] rfl (by (try simp only [List.map_toArray, List.map_cons, List.map_nil]); first | done | rfl | (simp only [List.length_drop, List.length_take]; rfl)) ?_; (with_reducible refine (laws_eqLogHead.calls k t135 _ _ t136 t139 t140 t105 _ _ t106 t109 t110 true _ ?side1 ?side2 ?side3 ?side4 A25.out).mono ?_); (case side1 => refine (Kd.R_reads' (e := 5) (base := w.heap.size) (ok := fun k_ => (True ∧ some k_ ≠ (.slice Ao43 t116.length co43 : Value).ownBlock)) (n := t136.length) (c := co64) ?_).2.2; exact (by (with_reducible repeat (first | apply Kd.R_alloc | apply Kd.R_drewN | apply Kd.R_drew)); exact (Kd.R_mono (Kd.R_far (p := ⟨gb141, 3, none⟩) (Kd.R_far (p := ⟨gb141, 2, none⟩) (Kd.R_far (p := ⟨gb141, 1, none⟩) (Kd.R_far (p := ⟨gb141, 0, none⟩) (Kd.R_types HO138.out BK141.out (by decide)) (fun _ hk => hk.2) (.int .i64 t135)) (fun _ hk => hk.2) (.slice Ao64 t136.length co64)) (fun _ hk => hk.2) (.int .i64 t139)) (fun _ hk => hk.2) (.int .i64 t140)) (fun _ h_ => h_.1)))); (case side2 => exact (Kd.R_reads' HO138.out).2.1); (case side3 => refine (Kd.V_reads' (e := 5) (base := w.heap.size) (ok := fun k_ => ((((some k_ ≠ (.slice Ao32 t102.length co32 : Value).ownBlock ∧ (some k_ ≠ (.slice Ao38 t112.length co38 : Value).ownBlock ∧ (some k_ ≠ (.slice Ao43 t116.length co43 : Value).ownBlock ∧ (some k_ ≠ (.slice Ao47 t123.length co47 : Value).ownBlock ∧ (k_ ≠ gb111 ∧ k_ ≠ gb121))))) ∧ some k_ ≠ (.slice Ao58 t132.length co58 : Value).ownBlock) ∧ some k_ ≠ (.slice Ao64 t136.length co64 : Value).ownBlock) ∧ k_ ≠ gb141)) (n := t106.length) (c := co36) ?_).2.2; exact (by (with_reducible repeat (first | apply Kd.V_alloc | apply Kd.V_drewN | apply Kd.V_drew)); exact (Kd.V_mono (Kd.V_far (p := ⟨gb141, 3, none⟩) (Kd.V_far (p := ⟨gb141, 2, none⟩) (Kd.V_far (p := ⟨gb141, 1, none⟩) (Kd.V_far (p := ⟨gb141, 0, none⟩) (Kd.V_mono HO108.out (fun k_ hk => (⟨hk, hk.2⟩ : _ ∧ k_ ≠ gb141))) (fun _ hk => hk.2) (.int .i64 t135)) (fun _ hk => hk.2) (.slice Ao64 t136.length co64)) (fun _ hk => hk.2) (.int .i64 t139)) (fun _ hk => hk.2) (.int .i64 t140)) (fun _ h_ => h_.1)))); (case side4 => exact (Kd.V_reads' HO108.out).2.1); rintro e w66 ⟨rfl, hb⟩; refine ⟨_, rfl, ?_⟩; have n1_ := Aside0.mk (Kd.V_below (by (with_reducible repeat (first | apply Kd.V_alloc | apply Kd.V_drewN | apply Kd.V_drew)); exact (Kd.V_mono (Kd.V_far (p := ⟨gb141, 3, none⟩) (Kd.V_far (p := ⟨gb141, 2, none⟩) (Kd.V_far (p := ⟨gb141, 1, none⟩) (Kd.V_far (p := ⟨gb141, 0, none⟩) (Kd.V_mono HO108.out (fun k_ hk => (⟨hk, hk.2⟩ : _ ∧ k_ ≠ gb141))) (fun _ hk => hk.2) (.int .i64 t135)) (fun _ hk => hk.2) (.slice Ao64 t136.length co64)) (fun _ hk => hk.2) (.int .i64 t139)) (fun _ hk => hk.2) (.int .i64 t140)) (fun _ h_ => h_.1))) hb); have n3_ := Aside0.mk (Kd.R_below (by (with_reducible repeat (first | apply Kd.R_alloc | apply Kd.R_drewN | apply Kd.R_drew)); exact (Kd.R_mono (Kd.R_far (p := ⟨gb141, 3, none⟩) (Kd.R_far (p := ⟨gb141, 2, none⟩) (Kd.R_far (p := ⟨gb141, 1, none⟩) (Kd.R_far (p := ⟨gb141, 0, none⟩) (Kd.R_types HO118.out BK141.out (by decide)) (fun _ hk => hk.2) (.int .i64 t135)) (fun _ hk => hk.2) (.slice Ao64 t136.length co64)) (fun _ hk => hk.2) (.int .i64 t139)) (fun _ hk => hk.2) (.int .i64 t140)) (fun _ h_ => h_.1))) hb); have n5_ := Aside0.mk (Kd.S_below (by (with_reducible repeat (first | apply Kd.S_alloc | apply Kd.S_drewN | apply Kd.S_drew)); exact (Kd.S_mono (Kd.S_far (p := ⟨gb141, 3, none⟩) (Kd.S_far (p := ⟨gb141, 2, none⟩) (Kd.S_far (p := ⟨gb141, 1, none⟩) (Kd.S_far (p := ⟨gb141, 0, none⟩) (Kd.S_types HO134.out BK141.out (by decide)) (fun _ hk => hk.2) (.int .i64 t135)) (fun _ hk => hk.2) (.slice Ao64 t136.length co64)) (fun _ hk => hk.2) (.int .i64 t139)) (fun _ hk => hk.2) (.int .i64 t140)) (fun _ h_ => h_.1))) hb); have n6_ := Aside0.mk (Kd.R_below (by (with_reducible repeat (first | apply Kd.R_alloc | apply Kd.R_drewN | apply Kd.R_drew)); exact (Kd.R_mono (Kd.R_far (p := ⟨gb141, 3, none⟩) (Kd.R_far (p := ⟨gb141, 2, none⟩) (Kd.R_far (p := ⟨gb141, 1, none⟩) (Kd.R_far (p := ⟨gb141, 0, none⟩) (Kd.R_types HO138.out BK141.out (by decide)) (fun _ hk => hk.2) (.int .i64 t135)) (fun _ hk => hk.2) (.slice Ao64 t136.length co64)) (fun _ hk => hk.2) (.int .i64 t139)) (fun _ hk => hk.2) (.int .i64 t140)) (fun _ h_ => h_.1))) hb); have n7_ := Aside0.mk (blk_below (g := gb111) (o := .cells #[.int .i64 t105, .slice Ao36 t106.length co36, .int .i64 t109, .int .i64 t110] 61 (0, 0)) (by (with_reducible repeat (first | refine blk_drewN ?_ _ | refine blk_drew ?_ | refine blk_alloc ?_ _)); refine blk_far ?_ NB111_141.out _; (with_reducible repeat (first | refine blk_drewN ?_ _ | refine blk_drew ?_ | refine blk_alloc ?_ _)); refine blk_far ?_ NB111_141.out _; (with_reducible repeat (first | refine blk_drewN ?_ _ | refine blk_drew ?_ | refine blk_alloc ?_ _)); refine blk_far ?_ NB111_141.out _; (with_reducible repeat (first | refine blk_drewN ?_ _ | refine blk_drew ?_ | refine blk_alloc ?_ _)); refine blk_far ?_ NB111_141.out _; (with_reducible repeat (first | refine blk_drewN ?_ _ | refine blk_drew ?_ | refine blk_alloc ?_ _)); exact BK111.out) hb); have n8_ := Aside0.mk (blk_below (g := gb121) (o := .cells #[.int .i64 t115, .slice Ao43 t116.length co43, .int .i64 t119, .int .i64 t120] 61 (0, 0)) (by (with_reducible repeat (first | refine blk_drewN ?_ _ | refine blk_drew ?_ | refine blk_alloc ?_ _)); refine blk_far ?_ NB121_141.out _; (with_reducible repeat (first | refine blk_drewN ?_ _ | refine blk_drew ?_ | refine blk_alloc ?_ _)); refine blk_far ?_ NB121_141.out _; (with_reducible repeat (first | refine blk_drewN ?_ _ | refine blk_drew ?_ | refine blk_alloc ?_ _)); refine blk_far ?_ NB121_141.out _; (with_reducible repeat (first | refine blk_drewN ?_ _ | refine blk_drew ?_ | refine blk_alloc ?_ _)); refine blk_far ?_ NB121_141.out _; (with_reducible repeat (first | refine blk_drewN ?_ _ | refine blk_drew ?_ | refine blk_alloc ?_ _)); exact BK121.out) hb); have n9_ := Aside0.mk (blk_below (g := gb141) (o := .cells #[.int .i64 t135, .slice Ao64 t136.length co64, .int .i64 t139, .int .i64 t140] 61 (0, 0)) (by (with_reducible repeat (first | refine blk_drewN ?_ _ | refine blk_drew ?_ | refine blk_alloc ?_ _)); refine blk_put (cs := #[.int .i64 t135, .slice Ao64 t136.length co64, .int .i64 t139, .int .i64 0]) ?_ 3 _ rfl; (with_reducible repeat (first | refine blk_drewN ?_ _ | refine blk_drew ?_ | refine blk_alloc ?_ _)); refine blk_put (cs := #[.int .i64 t135, .slice Ao64 t136.length co64, .int .i64 0, .int .i64 0]) ?_ 2 _ rfl; (with_reducible repeat (first | refine blk_drewN ?_ _ | refine blk_drew ?_ | refine blk_alloc ?_ _)); refine blk_put (cs := #[.int .i64 t135, .slice none 0 0, .int .i64 0, .int .i64 0]) ?_ 1 _ rfl; (with_reducible repeat (first | refine blk_drewN ?_ _ | refine blk_drew ?_ | refine blk_alloc ?_ _)); refine blk_put (cs := #[.int .i64 0, .slice none 0 0, .int .i64 0, .int .i64 0]) ?_ 0 _ rfl; (with_reducible repeat (first | refine blk_drewN ?_ _ | refine blk_drew ?_ | refine blk_alloc ?_ _)); exact BK141.out) hb); have n10_ := Aside0.mk (below_step (by repeat (first | (with_reducible first | exact HB.out | apply below_alloc | apply pw_below_drewN | apply below_drew1 | refine below_set ?_ GE111.out | refine below_set ?_ GE121.out | refine below_set ?_ GE141.out) | exact HB.out)) hb); have XM2 := Aside0.mk (Nat.le_trans XM.out (by have h_ := hb.size; simpa only [size_setCell_, size_drewN_] using h_)); clear XM; have XM := XM2; clear XM2; clear HO108; clear HO118; clear HO134; clear HO138; clear BK111; clear BK121; clear BK141; clear HB; have HO108 := n1_; have HO118 := n3_; have HO134 := n5_; have HO138 := n6_; have BK111 := n7_; have BK121 := n8_; have BK141 := n9_; have HB := n10_; clear n1_ n3_ n5_ n6_ n7_ n8_ n9_ n10_; (try clear hb); (try clear hb2); (try clear hk); (try clear hi); have hcz67_0 : w66.cell? ⟨gb121, 0, none⟩ = some (.int .i64 t115) := (blk_cell BK121.out 0).trans rfl; have hcz67_1 : w66.cell? ⟨gb121, 1, none⟩ = some (.slice Ao43 t116.length co43) := (blk_cell BK121.out 1).trans rfl; have hcz67_2 : w66.cell? ⟨gb121, 2, none⟩ = some (.int .i64 t119) := (blk_cell BK121.out 2).trans rfl; have hcz67_3 : w66.cell? ⟨gb121, 3, none⟩ = some (.int .i64 t120) := (blk_cell BK121.out 3).trans rfl; have hfz67_0 := blk_frozen BK121.out 0; have hfz67_1 := blk_frozen BK121.out 1; have hfz67_2 := blk_frozen BK121.out 2; have hfz67_3 := blk_frozen BK121.out 3) | ((with_reducible refine gate_callee (f := 61) rfl ?_); refine goesL_ (some 68) rfl rfl Try.func61 (by kernel_rfl) rfl #[.agg #[.int .i64 t115, .slice Ao43 t130.length co43, .int .i64 t119, .int .i64 t120], .int .i64 1] rfl (by (try simp only [List.map_toArray, List.map_cons, List.map_nil]); first | done | (rw [show t130.length = t116.length from (Kd.R_reads' HO118.out).1.symm] <;> rfl) | rfl | (simp only [List.length_drop, List.length_take]; rfl)) ?_; (with_reducible refine (laws_heldLogHead.calls k t115 _ _ t130 t119 t120 1 t143 _ ?side1 ?side2 A27.out).mono ?_); (case side1 => repeat (first | exact (Kd.R_reads' HO118.out).2.2 | (with_reducible refine Kd.C_alloc ?_ _) | (with_reducible refine Kd.C_drewN ?_ _) | (with_reducible refine Kd.C_drew ?_))); (case side2 => rw [show t130.length = t116.length from (Kd.R_reads' HO118.out).1.symm]; exact (Kd.R_reads' HO118.out).2.1); rintro e w68 ⟨rfl, hb⟩; refine ⟨_, rfl, ?_⟩; have n1_ := Aside0.mk (Kd.V_below (by (with_reducible repeat (first | apply Kd.V_alloc | apply Kd.V_drewN | apply Kd.V_drew)); exact HO108.out) hb); have n3_ := Aside0.mk (Kd.R_below (by (with_reducible repeat (first | apply Kd.R_alloc | apply Kd.R_drewN | apply Kd.R_drew)); exact HO118.out) hb); have n5_ := Aside0.mk (Kd.S_below (by (with_reducible repeat (first | apply Kd.S_alloc | apply Kd.S_drewN | apply Kd.S_drew)); exact HO134.out) hb); have n6_ := Aside0.mk (Kd.R_below (by (with_reducible repeat (first | apply Kd.R_alloc | apply Kd.R_drewN | apply Kd.R_drew)); exact HO138.out) hb); have n7_ := Aside0.mk (blk_below (g := gb111) (o := .cells #[.int .i64 t105, .slice Ao36 t106.length co36, .int .i64 t109, .int .i64 t110] 61 (0, 0)) (by (with_reducible repeat (first | refine blk_drewN ?_ _ | refine blk_drew ?_ | refine blk_alloc ?_ _)); exact BK111.out) hb); have n8_ := Aside0.mk (blk_below (g := gb121) (o := .cells #[.int .i64 t115, .slice Ao43 t116.length co43, .int .i64 t119, .int .i64 t120] 61 (0, 0)) (by (with_reducible repeat (first | refine blk_drewN ?_ _ | refine blk_drew ?_ | refine blk_alloc ?_ _)); exact BK121.out) hb); have n9_ := Aside0.mk (blk_below (g := gb141) (o := .cells #[.int .i64 t135, .slice Ao64 t136.length co64, .int .i64 t139, .int .i64 t140] 61 (0, 0)) (by (with_reducible repeat (first | refine blk_drewN ?_ _ | refine blk_drew ?_ | refine blk_alloc ?_ _)); exact BK141.out) hb); have n10_ := Aside0.mk (below_step (by repeat (first | (with_reducible first | exact HB.out | apply below_alloc | apply pw_below_drewN | apply below_drew1 | refine below_set ?_ GE111.out | refine below_set ?_ GE121.out | refine below_set ?_ GE141.out) | exact HB.out)) hb); have XM2 := Aside0.mk (Nat.le_trans XM.out (by have h_ := hb.size; simpa only [size_setCell_, size_drewN_] using h_)); clear XM; have XM := XM2; clear XM2; clear HO108; clear HO118; clear HO134; clear HO138; clear BK111; clear BK121; clear BK141; clear HB; have HO108 := n1_; have HO118 := n3_; have HO134 := n5_; have HO138 := n6_; have BK111 := n7_; have BK121 := n8_; have BK141 := n9_; have HB := n10_; clear n1_ n3_ n5_ n6_ n7_ n8_ n9_ n10_; (try clear hb); (try clear hb2); (try clear hk); (try clear hi)))
                      go_ret
                      exact ⟨by first | rfl | (simp [errW_none, errW_some] <;> rfl) | (simp [*, errW_none, errW_some] <;> rfl), by repeat (first | (with_reducible first | exact HB.out | apply below_alloc | apply pw_below_drewN | apply below_drew1 | refine below_set ?_ GE111.out | refine below_set ?_ GE121.out | refine below_set ?_ GE141.out) | exact HB.out)⟩
                    · rw [if_neg c29] at H
                      exact absurd H (by simp)
                · replace c26 := Bool.eq_false_iff.mpr c26
                  subst c26
                  have H1 : (none) = some r := by rw [if_neg (show ¬ (false = true) by decide)] at H; exact H
                  clear H
                  have H := H1
                  clear H1
                  exact absurd H (by simp)
              · rw [if_neg c22] at H
                exact absurd H (by simp)
          · replace c18 := Bool.eq_false_iff.mpr c18
            subst c18
            have H1 : (none) = some r := by rw [if_neg (show ¬ (false = true) by decide)] at H; exact H
            clear H
            have H := H1
            clear H1
            exact absurd H (by simp)
      · replace c14 := Bool.eq_false_iff.mpr c14
        subst c14
        have H1 : (none) = some r := by rw [if_neg (show ¬ (false = true) by decide)] at H; exact H
        clear H
        have H := H1
        clear H1
        exact absurd H (by simp)
    · replace c11 := Bool.eq_false_iff.mpr c11
      subst c11
      have H1 : (none) = some r := by rw [if_neg (show ¬ (false = true) by decide)] at H; exact H
      clear H
      have H := H1
      clear H1
      exact absurd H (by simp)
open Go.RowKit Go.Proofs.Ytipdkendfcopiaa.Read Go.Proofs.YtipdkendfcopiaaW.PrintWords
def ok24 (x : S24) : Prop := okI x.f0 ∧ okS x.f1 ∧ okS x.f2 ∧ (okL okB) x.f3 ∧ (okL okB) x.f4
theorem tells24 : Tells Try.prog 24 k24 ok24 :=
  tells_iso (fun x : S24 => (x.f0, x.f1, x.f2, x.f3, x.f4)) (fun a => ⟨a.1, a.2.1, a.2.2.1, a.2.2.2.1, a.2.2.2.2⟩) (fun _ => rfl) (tells_struct Try.underlying24 (by kernel_rfl) (fs_cons rfl (tellsI Try.underlying3 (by kernel_rfl)) (fs_cons rfl (tellsS Try.underlying9 (by kernel_rfl)) (fs_cons rfl (tellsS Try.underlying9 (by kernel_rfl)) (fs_cons rfl (tellsL Try.underlying22 (by kernel_rfl) (tellsB Try.underlying5 (by kernel_rfl))) (fs_one rfl (tellsL Try.underlying22 (by kernel_rfl) (tellsB Try.underlying5 (by kernel_rfl)))))))))
def laws_FnExactSignHead.Pure : Prop := ∀ (a0 : Int) (l1 : (List S24)), okI a0 → (okL ok24) l1 → ∃ k, laws_FnExactSignHead.f k a0 l1 = some true
theorem w64 {n : Int} (h0 : -9223372036854775808 ≤ n) (h1 : n ≤ 9223372036854775807) : wrap64 n = n := by unfold wrap64; omega
theorem rd_nat {l : List Int} {i : Nat} (h : i < l.length) : rd l (i : Int) = l[i] := by
  simp [rd, List.getD_eq_getElem?_getD, List.getElem?_eq_getElem h]
theorem szByteS_eq (l : List Int) (n : Int) : laws_szByteS.f l n = some (if wrap64 (n - l.length) < 0 then -1 else wrap64 (n - l.length)) := by
  unfold laws_szByteS.f; split <;> rfl
theorem toByteS_l0 (x0 : List Int) (hl : x0.length ≤ 281474976710656) (d : Nat) : ∀ (k i : Nat) (x3 : List Int), x0.length - i = d → i ≤ x0.length → x3.length = x0.length → d < k → laws_toByteS.l0 k x0 x3 i = some (x3.take i ++ x0.drop i) := by
  induction d with
  | zero =>
    intro k i x3 hd hi h3 hk
    obtain ⟨k, rfl⟩ : ∃ m, k = m + 1 := ⟨k - 1, by omega⟩
    simp only [laws_toByteS.l0]
    rw [if_neg (by omega), List.take_of_length_le (by omega), List.drop_of_length_le (by omega), List.append_nil]
  | succ d ih =>
    intro k i x3 hd hi h3 hk
    obtain ⟨k, rfl⟩ : ∃ m, k = m + 1 := ⟨k - 1, by omega⟩
    simp only [laws_toByteS.l0]
    rw [if_pos (by omega), if_pos (by omega), if_pos (by omega), w64 (by omega) (by omega)]
    have e := ih k (i + 1) (x3.set i (rd x0 i)) (by omega) (by omega) (by simpa using h3) (by omega)
    rw [Int.toNat_natCast]
    rw [show ((i : Int) + 1) = ((i + 1 : Nat) : Int) from rfl, e]
    congr 1
    have hlt : i < x0.length := by omega
    rw [List.take_succ_eq_append_getElem (by simp; omega), List.getElem_set_self, List.take_set_of_le (by omega), rd_nat hlt, List.append_assoc, List.singleton_append, ← List.drop_eq_getElem_cons hlt]
theorem toByteS_ev (l : List Int) (hl : l.length ≤ 281474976710656) : Ev (fun k => laws_toByteS.f k l) l :=
  ⟨l.length + 1, fun k hk => by
    show laws_toByteS.f k l = some l
    unfold laws_toByteS.f
    rw [if_pos (by omega), if_pos (by omega)]
    have := toByteS_l0 l hl l.length k 0 (List.replicate ((l.length : Int)).toNat 0) (by omega) (by omega) (by simp) (by omega)
    simpa using this⟩
theorem eqByteS_l0 (x0 x1 : List Int) (hl : x0.length = x1.length) (hm : x0.length ≤ 281474976710656) (d : Nat) : ∀ (k i : Nat), x0.length - i = d → i ≤ x0.length → d < k → laws_eqByteS.l0 k x0 x1 i = some (decide (x0.drop i = x1.drop i)) := by
  induction d with
  | zero =>
    intro k i hd hi hk
    obtain ⟨k, rfl⟩ : ∃ m, k = m + 1 := ⟨k - 1, by omega⟩
    simp only [laws_eqByteS.l0]
    rw [if_neg (by omega), List.drop_of_length_le (by omega), List.drop_of_length_le (by omega)]; simp
  | succ d ih =>
    intro k i hd hi hk
    obtain ⟨k, rfl⟩ : ∃ m, k = m + 1 := ⟨k - 1, by omega⟩
    simp only [laws_eqByteS.l0]
    have h0 : i < x0.length := by omega
    have h1 : i < x1.length := by omega
    rw [if_pos (by omega), if_pos (by omega), if_pos (by omega), w64 (by omega) (by omega), rd_nat h0, rd_nat h1, List.drop_eq_getElem_cons h0, List.drop_eq_getElem_cons h1]
    have e := ih k (i + 1) (by omega) (by omega) (by omega)
    rw [show ((i : Int) + 1) = ((i + 1 : Nat) : Int) from rfl, e]
    by_cases hx : x0[i] = x1[i]
    · rw [if_pos hx]; congr 1; rw [decide_eq_decide, hx, List.cons.injEq]; exact ⟨fun h => ⟨rfl, h⟩, fun h => h.2⟩
    · rw [if_neg hx]; congr 1; symm; rw [decide_eq_false_iff_not, List.cons.injEq]; exact fun h => hx h.1
theorem eqByteS_ev (a b : List Int) (hl : a.length ≤ 281474976710656) : Ev (fun k => laws_eqByteS.f k a b) (decide (a = b)) :=
  ⟨a.length + 1, fun k hk => by
    show laws_eqByteS.f k a b = _
    unfold laws_eqByteS.f
    by_cases h : a.length = b.length
    · rw [if_pos (by omega)]
      have := eqByteS_l0 a b h hl a.length k 0 (by omega) (by omega) (by omega)
      simpa using this
    · rw [if_neg (by omega)]
      have : a ≠ b := fun e => h (by rw [e])
      simp [this]⟩
theorem eqByteS_refl (a : List Int) (hl : a.length ≤ 281474976710656) : Ev (fun k => laws_eqByteS.f k a a) true := by
  have := eqByteS_ev a a hl
  simpa using this
def markL : Nat → Int → List Int
  | 0, _ => []
  | n + 1, k => k % 256 :: markL n (k + 1)
theorem markL_len : ∀ (n : Nat) (k : Int), (markL n k).length = n
  | 0, _ => rfl
  | n + 1, k => by simp [markL, markL_len n]
theorem markByteS_l0 (d : Nat) : ∀ (k i : Nat) (c : Int) (x0 : List Int), x0.length - i = d → i ≤ x0.length → x0.length ≤ 281474976710656 → 0 ≤ c → c + d ≤ 9000000000000000000 → d < k → laws_markByteS.l0 k x0 c i = some (c + d, x0.take i ++ markL d c) := by
  induction d with
  | zero =>
    intro k i c x0 hd hi hl hc hc2 hk
    obtain ⟨k, rfl⟩ : ∃ m, k = m + 1 := ⟨k - 1, by omega⟩
    simp only [laws_markByteS.l0]
    rw [if_neg (by omega), List.take_of_length_le (by omega)]; simp [markL]
  | succ d ih =>
    intro k i c x0 hd hi hl hc hc2 hk
    obtain ⟨k, rfl⟩ : ∃ m, k = m + 1 := ⟨k - 1, by omega⟩
    simp only [laws_markByteS.l0]
    rw [if_pos (by omega), if_pos (by omega), w64 (by omega) (by omega), w64 (by omega) (by omega), Int.toNat_natCast]
    have e := ih k (i + 1) (c + 1) (x0.set i (c % 256)) (by simp; omega) (by simp; omega) (by simpa using hl) (by omega) (by omega) (by omega)
    rw [show ((i : Int) + 1) = ((i + 1 : Nat) : Int) from rfl, e]
    have hlt : i < x0.length := by omega
    rw [List.take_succ_eq_append_getElem (by simp; omega), List.getElem_set_self, List.take_set_of_le (by omega), List.append_assoc, List.singleton_append, markL]
    congr 2; omega
theorem markByteS_ev (l : List Int) (c : Int) (hl : l.length ≤ 281474976710656) (hc : 0 ≤ c) (hc2 : c ≤ 8000000000000000000) : Ev (fun k => laws_markByteS.f k l c) (c + l.length, markL l.length c) :=
  ⟨l.length + 1, fun k hk => by
    have := markByteS_l0 l.length k 0 c l (by omega) (by omega) hl hc (by omega) (by omega)
    simpa [laws_markByteS.f] using this⟩
theorem heldByteS_l0 (n : Nat) : ∀ (k i : Nat) (c : Int) (x0 : List Int), x0.drop i = markL n c → i ≤ x0.length → x0.length ≤ 281474976710656 → 0 ≤ c → c + n ≤ 9000000000000000000 → n < k → laws_heldByteS.l0 k x0 c i = some (c + n) := by
  induction n with
  | zero =>
    intro k i c x0 hd hi hl hc hc2 hk
    obtain ⟨k, rfl⟩ : ∃ m, k = m + 1 := ⟨k - 1, by omega⟩
    have hlen := congrArg List.length hd
    rw [List.length_drop, markL_len] at hlen
    simp only [laws_heldByteS.l0]
    rw [if_neg (by omega)]; simp
  | succ n ih =>
    intro k i c x0 hd hi hl hc hc2 hk
    obtain ⟨k, rfl⟩ : ∃ m, k = m + 1 := ⟨k - 1, by omega⟩
    have hlen := congrArg List.length hd
    rw [List.length_drop, markL_len] at hlen
    have hlt : i < x0.length := by omega
    rw [List.drop_eq_getElem_cons hlt, markL] at hd
    injection hd with h1 h2
    simp only [laws_heldByteS.l0]
    rw [if_pos (by omega), if_pos (by omega), rd_nat hlt, if_pos h1, w64 (by omega) (by omega), w64 (by omega) (by omega), show ((i : Int) + 1) = ((i + 1 : Nat) : Int) from rfl, ih k (i + 1) (c + 1) x0 h2 (by omega) hl (by omega) (by omega) (by omega)]
    congr 1; omega
theorem heldByteS_ev (n : Nat) (c : Int) (hl : n ≤ 281474976710656) (hc : 0 ≤ c) (hc2 : c ≤ 8000000000000000000) : Ev (fun k => laws_heldByteS.f k (markL n c) c) (c + n) :=
  ⟨n + 1, fun k hk => by
    have := heldByteS_l0 n k 0 c (markL n c) (by simp) (by omega) (by rw [markL_len]; exact hl) hc (by omega) (by omega)
    simpa [laws_heldByteS.f] using this⟩
def prtN (s : ByteArray) : Nat → Bool
  | 0 => true
  | d + 1 => if bt s ((s.size - (d + 1) : Nat) : Int) < 32 then false else if bt s ((s.size - (d + 1) : Nat) : Int) > 126 then false else prtN s d
def prt (s : ByteArray) : Bool := prtN s s.size
theorem l1Printed_l0 (s : ByteArray) (hs : s.size ≤ 9223372036854775807) (d : Nat) : ∀ (k i : Nat), s.size - i = d → i ≤ s.size → d < k → spec_l1Printed.l0 k s i = some (prtN s d) := by
  induction d with
  | zero =>
    intro k i hd hi hk
    obtain ⟨k, rfl⟩ : ∃ m, k = m + 1 := ⟨k - 1, by omega⟩
    simp only [spec_l1Printed.l0]
    rw [if_neg (by omega)]; rfl
  | succ d ih =>
    intro k i hd hi hk
    obtain ⟨k, rfl⟩ : ∃ m, k = m + 1 := ⟨k - 1, by omega⟩
    have e0 : s.size - (d + 1) = i := by omega
    simp only [spec_l1Printed.l0, prtN, e0]
    rw [if_pos (by omega), if_pos (by omega), w64 (by omega) (by omega), show ((i : Int) + 1) = ((i + 1 : Nat) : Int) from rfl, ih k (i + 1) (by omega) (by omega) (by omega)]
    split
    · rfl
    · split <;> rfl
theorem l1Printed_eq (s : ByteArray) (hs : s.size ≤ 9223372036854775807) (k : Nat) (hk : s.size < k) : spec_l1Printed.f k s = some (prt s) :=
  l1Printed_l0 s hs s.size k 0 (by omega) (by omega) hk
theorem yprinted_l0 (s : ByteArray) (hs : s.size ≤ 9223372036854775807) (d : Nat) : ∀ (k i : Nat), s.size - i = d → i ≤ s.size → d < k → impl_yprinted.l0 k s (s.size : Int) i = some (prtN s d) := by
  induction d with
  | zero =>
    intro k i hd hi hk
    obtain ⟨k, rfl⟩ : ∃ m, k = m + 1 := ⟨k - 1, by omega⟩
    simp only [impl_yprinted.l0]
    rw [if_neg (by omega)]; rfl
  | succ d ih =>
    intro k i hd hi hk
    obtain ⟨k, rfl⟩ : ∃ m, k = m + 1 := ⟨k - 1, by omega⟩
    have e0 : s.size - (d + 1) = i := by omega
    simp only [impl_yprinted.l0, prtN, e0]
    rw [if_pos (by omega), if_pos (by omega), if_pos (by omega), w64 (by omega) (by omega), show ((i : Int) + 1) = ((i + 1 : Nat) : Int) from rfl, ih k (i + 1) (by omega) (by omega) (by omega)]
    split
    · rfl
    · split <;> rfl
theorem yprinted_eq (s : ByteArray) (lo hi : Int) (hs : s.size ≤ 9223372036854775807) (k : Nat) (hk : s.size + 1 < k) : impl_yprinted.f k s lo hi = some (decide (lo ≤ s.size) && decide ((s.size : Int) ≤ hi) && prt s) := by
  obtain ⟨k, rfl⟩ : ∃ m, k = m + 1 := ⟨k - 1, by omega⟩
  unfold impl_yprinted.f
  have e := yprinted_l0 s hs s.size k 0 (by omega) (by omega) (by omega)
  by_cases h1 : (s.size : Int) < lo
  · rw [if_pos h1]
    simp only [impl_yprinted.j0, if_true]
    simp; omega
  · rw [if_neg h1]
    have h1' : decide (lo ≤ (s.size : Int)) = true := decide_eq_true (by omega)
    by_cases h2 : (s.size : Int) ≤ hi
    · have h2' : decide ((s.size : Int) > hi) = false := decide_eq_false (by omega)
      have h2'' : decide ((s.size : Int) ≤ hi) = true := decide_eq_true h2
      rw [h1', h2', h2'']
      simp only [impl_yprinted.j0, Bool.false_eq_true, if_false, Bool.true_and]
      exact e
    · have h2' : decide ((s.size : Int) > hi) = true := decide_eq_true (by omega)
      have h2'' : decide ((s.size : Int) ≤ hi) = false := decide_eq_false h2
      rw [h1', h2', h2'']
      simp [impl_yprinted.j0]
def goodEntry (t : Int) (who what : ByteArray) (salt cover : List Int) : Bool :=
  if t < 0 then false else if t > 100000000000 then false else if (who.size : Int) > 60 then false else if prt who = false then false else
  if cover.length = 0 then (decide ((what.size : Int) ≤ 200) && prt what && decide ((salt.length : Int) ≤ 20))
  else decide (cover.length = 16) && decide (what.toList = ([] : List UInt8)) && decide (salt.length = 0)
theorem specGood_eq (t : Int) (who what : ByteArray) (salt cover : List Int) (h1 : okS who) (h2 : okS what) (k : Nat) (hk : who.size + what.size + 1 < k) : spec_GoodLogEntry.f k t who what salt cover = some (goodEntry t who what salt cover) := by
  unfold okS at h1 h2
  obtain ⟨k, rfl⟩ : ∃ m, k = m + 1 := ⟨k - 1, by omega⟩
  unfold spec_GoodLogEntry.f goodEntry
  have bad : spec_GoodLogEntry.j0 (k + 1) true t who what salt cover = some false := by simp [spec_GoodLogEntry.j0]
  rw [bad]
  split; · rfl
  split; · rfl
  split; · rfl
  rw [l1Printed_eq who h1 (k + 1) (by omega)]
  simp only [Option.bind_some]
  cases prt who with
  | false => exact bad
  | true =>
    simp only [Bool.not_true, spec_GoodLogEntry.j0, Bool.false_eq_true, if_false, spec_l21Open.f, Option.bind_some, beq_iff_eq, reduceCtorEq]
    by_cases hc : cover.length = 0
    · rw [if_pos (by omega), if_pos hc]
      by_cases hw : (what.size : Int) ≤ 200
      · rw [if_pos hw, l1Printed_eq what h2 k (by omega)]
        simp only [Option.bind_some]
        cases prt what <;> simp [hw]
      · rw [if_neg hw]; simp [hw]
    · rw [if_neg (by omega), if_neg hc]
      by_cases hc2 : cover.length = 16
      · rw [if_pos (by omega)]
        by_cases hw : what.toList = []
        · rw [if_pos hw]
          simp only [hc2, hw, decide_true, Bool.true_and, Option.some.injEq]
          rw [Bool.eq_iff_iff]; simp
        · rw [if_neg hw]; simp [hw]
      · rw [if_neg (by omega)]; simp [hc2]
theorem implGood_eq (t : Int) (who what : ByteArray) (salt cover : List Int) (h1 : okS who) (h2 : okS what) (k : Nat) (hk : who.size + what.size + 3 < k) : impl_GoodLogEntry.f k t who what salt cover = some (goodEntry t who what salt cover) := by
  unfold okS at h1 h2
  obtain ⟨k, rfl⟩ : ∃ m, k = m + 1 := ⟨k - 1, by omega⟩
  unfold impl_GoodLogEntry.f goodEntry
  have bad : impl_GoodLogEntry.j0 (k + 1) true t who what salt cover = some false := by simp [impl_GoodLogEntry.j0]
  rw [bad]
  split; · rfl
  split; · rfl
  rw [yprinted_eq who 0 60 h1 (k + 1) (by omega)]
  simp only [Option.bind_some]
  by_cases h60 : (who.size : Int) > 60
  · rw [if_pos h60]
    have : decide ((who.size : Int) ≤ 60) = false := decide_eq_false (by omega)
    rw [this]
    simpa using bad
  rw [if_neg h60]
  have e60 : decide ((who.size : Int) ≤ 60) = true := decide_eq_true (by omega)
  have e0 : decide ((0 : Int) ≤ (who.size : Int)) = true := decide_eq_true (by omega)
  rw [e60, e0]
  simp only [Bool.true_and]
  cases prt who with
  | false => exact bad
  | true =>
    simp only [Bool.not_true, impl_GoodLogEntry.j0, Bool.false_eq_true, if_false, reduceCtorEq]
    by_cases hc : cover.length = 0
    · rw [if_pos (by omega), if_pos hc, yprinted_eq what 0 200 h2 k (by omega)]
      simp only [Option.bind_some]
      have e0 : decide ((0 : Int) ≤ (what.size : Int)) = true := decide_eq_true (by omega)
      rw [e0, Bool.true_and]
      cases hh : (decide ((what.size : Int) ≤ 200) && prt what) <;> simp
    · rw [if_neg (by omega), if_neg hc]
      by_cases hc2 : cover.length = 16
      · rw [if_pos (by omega)]
        by_cases hw : what.toList = []
        · rw [if_pos hw]
          simp only [hc2, hw, decide_true, Bool.true_and, Option.some.injEq]
          rw [Bool.eq_iff_iff]; simp
        · rw [if_neg hw]; simp [hw]
      · rw [if_neg (by omega)]; simp [hc2]
theorem toLogEntry_ev (t : Int) (who what : ByteArray) (salt cover : List Int) (h3 : salt.length ≤ 1048576) (h4 : cover.length ≤ 1048576) : Ev (fun k => laws_toLogEntry.f k t who what salt cover) (t, who, what, salt, cover) := by
  refine Ev.congr (f := fun k => (laws_toByteS.f k salt).bind fun t104 => ((laws_toByteS.f k cover).bind fun t107 => (some (t, who, what, t104, t107)))) (fun k => rfl) ?_
  refine Ev.bind (toByteS_ev salt (by omega)) ?_
  exact Ev.bind (toByteS_ev cover (by omega)) (Ev.now _)
theorem eqLogEntry_refl (t : Int) (who what : ByteArray) (salt cover : List Int) (h3 : salt.length ≤ 1048576) (h4 : cover.length ≤ 1048576) : Ev (fun k => laws_eqLogEntry.f k t who what salt cover t who what salt cover) true := by
  refine Ev.congr (f := fun k => (laws_eqByteS.f k salt salt).bind fun t103 => (if t103 = true then ((laws_eqByteS.f k cover cover).bind fun t104 => (if t104 = true then (some true) else (some false))) else (some false))) (fun k => by simp [laws_eqLogEntry.f]) ?_
  refine Ev.bind (eqByteS_refl salt (by omega)) ?_
  refine Ev.congr (fun k => if_pos rfl) ?_
  refine Ev.bind (eqByteS_refl cover (by omega)) ?_
  exact Ev.congr (fun k => if_pos rfl) (Ev.now _)
def inP (a : List Int) : Prop := a.length = 4 ∧ ∀ j, j < 4 → 0 ≤ a.getD j 0 ∧ a.getD j 0 < 2147483579
theorem inP_start : inP [11, 22, 33, 44] := ⟨rfl, by decide⟩
theorem inP_mix {a : List Int} (h : inP a) (x : Int) (hx : 0 ≤ x) : inP (dgMix a x) := ⟨by rw [dgMix, mix_len, h.1], mix_bd a x hx h.1 h.2 4 (by omega)⟩
theorem dgAll_cons (a : List Int) (x : Int) (l : List Int) : dgAll a (x :: l) = dgAll (dgMix a x) l := rfl
theorem mt_at (i : Nat) (h : i < 4) : rd [1103515245, 69069, 1664525, 22695477] (i : Int) = mulT.getD i 0 := by
  match i, h with
  | 0, _ => rfl
  | 1, _ => rfl
  | 2, _ => rfl
  | 3, _ => rfl
theorem rd_getD (l : List Int) (i : Nat) : rd l (i : Int) = l.getD i 0 := by simp [rd]
theorem specMix_step (l : List Int) (h : inP l) (x : Int) (hx : 0 ≤ x ∧ x ≤ 255) (i : Nat) (hi : i < 4) (k : Nat) :
    spec_l2Mix.l0 (k + 1) (mixN l x i) x [1103515245, 69069, 1664525, 22695477] i = spec_l2Mix.l0 k (mixN l x (i + 1)) x [1103515245, 69069, 1664525, 22695477] ((i + 1 : Nat) : Int) := by
  have hlen : (mixN l x i).length = 4 := by rw [mix_len, h.1]
  have b1 := mix_bd l x hx.1 h.1 h.2 i (by omega) i hi
  have b2 := mix_bd l x hx.1 h.1 h.2 i (by omega) ((i + 1) % 4) (by omega)
  have b3 := mulOk i hi
  simp only [spec_l2Mix.l0]
  rw [w64 (n := (i : Int) + 1) (by omega) (by omega)]
  have e6 : Int.tmod ((i : Int) + 1) 4 = ((i + 1) % 4 : Nat) := by rw [Int.tmod_eq_emod_of_nonneg (by omega)]; omega
  rw [e6, mt_at i hi, rd_getD, rd_getD]
  obtain ⟨p1, e1⟩ : ∃ p, p = (mixN l x i).getD i 0 := ⟨_, rfl⟩
  obtain ⟨p2, e2⟩ : ∃ p, p = (mixN l x i).getD ((i + 1) % 4) 0 := ⟨_, rfl⟩
  obtain ⟨p3, e3⟩ : ∃ p, p = mulT.getD i 0 := ⟨_, rfl⟩
  have e5 : mixN l x (i + 1) = (mixN l x i).set i ((p1 * p3 + x + 1 + p2) % 2147483579) := by rw [e1, e2, e3]; rfl
  rw [e5, ← e1, ← e2, ← e3]
  rw [← e1] at b1; rw [← e2] at b2; rw [← e3] at b3
  have b4 := prod_bd b1.1 b1.2 b3.1 b3.2
  rw [if_pos (by omega), if_pos (by omega), if_pos (by omega), if_pos (by simp; omega), if_pos (by omega), if_pos (by omega), w64 (n := p1 * p3) (by omega) (by omega), w64 (n := p1 * p3 + x) (by omega) (by omega), w64 (n := p1 * p3 + x + 1) (by omega) (by omega), w64 (by omega) (by omega), Int.tmod_eq_emod_of_nonneg (by omega), Int.toNat_natCast]
  rfl
theorem specMix_eq (l : List Int) (h : inP l) (x : Int) (hx : 0 ≤ x ∧ x ≤ 255) (k : Nat) (hk : 5 ≤ k) : spec_l2Mix.f k l x = some (dgMix l x) := by
  obtain ⟨k, rfl⟩ : ∃ m, k = m + 5 := ⟨k - 5, by omega⟩
  unfold spec_l2Mix.f
  have e0 := specMix_step l h x hx 0 (by omega) (k + 4)
  have e1 := specMix_step l h x hx 1 (by omega) (k + 3)
  have e2 := specMix_step l h x hx 2 (by omega) (k + 2)
  have e3 := specMix_step l h x hx 3 (by omega) (k + 1)
  have e4 : spec_l2Mix.l0 (k + 1) (mixN l x 4) x [1103515245, 69069, 1664525, 22695477] ((3 + 1 : Nat) : Int) = some (mixN l x 4) := by
    simp only [spec_l2Mix.l0]; rw [if_neg (by omega)]
  exact e0.trans (e1.trans (e2.trans (e3.trans e4)))
theorem tm256 (n : Int) (h : 0 ≤ n) : Int.tmod n 256 % 256 = n % 256 := by rw [Int.tmod_eq_emod_of_nonneg h]; omega
theorem td256 (n : Int) (h : 0 ≤ n) (h2 : n ≤ 9223372036854775807) : wrap64 (Int.tdiv n 256) = n / 256 := by
  rw [Int.tdiv_eq_ediv_of_nonneg h, w64 (by omega) (by omega)]
theorem specBytes_eq (n : Int) (h : 0 ≤ n) (h2 : n ≤ 9223372036854775807) (k : Nat) (hk : 5 ≤ k) : spec_l2Bytes.f k n = some (yb n) := by
  obtain ⟨k, rfl⟩ : ∃ m, k = m + 5 := ⟨k - 5, by omega⟩
  unfold spec_l2Bytes.f
  rw [if_pos (by omega)]
  simp only [Option.bind_some, List.length_replicate]
  simp only [spec_l2Bytes.l0]
  have a1 := td256 n h h2
  have a2 := td256 (n / 256) (by omega) (by omega)
  have a3 := td256 (n / 256 / 256) (by omega) (by omega)
  have w1 : wrap64 ((0 : Int) + 1) = 1 := by unfold wrap64; omega
  have w2 : wrap64 ((1 : Int) + 1) = 2 := by unfold wrap64; omega
  have w3 : wrap64 ((2 : Int) + 1) = 3 := by unfold wrap64; omega
  have w4 : wrap64 ((3 : Int) + 1) = 4 := by unfold wrap64; omega
  rw [w1, w2, w3, w4, a1, a2, a3, tm256 n h, tm256 _ (by omega), tm256 _ (by omega), tm256 _ (by omega)]
  simp [yb, List.replicate]
  omega
theorem specDig_l3 (a : List Int) (h : inP a) : ∀ (k : Nat), 10 ≤ k → spec_l2Digest.l3 k [] a (a.length : Int) 0 = some (a.flatMap yb) := by
  intro k hk
  obtain ⟨k, rfl⟩ : ∃ m, k = m + 10 := ⟨k - 10, by omega⟩
  obtain ⟨hl, hb⟩ := h
  match a, hl with
  | [b0, b1, b2, b3], _ =>
    have h0 := hb 0 (by omega)
    have h1 := hb 1 (by omega)
    have h2 := hb 2 (by omega)
    have h3 := hb 3 (by omega)
    simp only [List.getD_cons_zero, List.getD_cons_succ] at h0 h1 h2 h3
    have w1 : wrap64 ((0 : Int) + 1) = 1 := by unfold wrap64; omega
    have w2 : wrap64 ((1 : Int) + 1) = 2 := by unfold wrap64; omega
    have w3 : wrap64 ((2 : Int) + 1) = 3 := by unfold wrap64; omega
    have w4 : wrap64 ((3 : Int) + 1) = 4 := by unfold wrap64; omega
    have r0 : rd [b0, b1, b2, b3] 0 = b0 := rfl
    have r1 : rd [b0, b1, b2, b3] 1 = b1 := rfl
    have r2 : rd [b0, b1, b2, b3] 2 = b2 := rfl
    have r3 : rd [b0, b1, b2, b3] 3 = b3 := rfl
    simp only [spec_l2Digest.l3, w1, w2, w3, w4, r0, r1, r2, r3]
    rw [specBytes_eq b0 (by omega) (by omega) _ (by omega), specBytes_eq b1 (by omega) (by omega) _ (by omega), specBytes_eq b2 (by omega) (by omega) _ (by omega), specBytes_eq b3 (by omega) (by omega) _ (by omega)]
    simp [yb]
theorem specDig_l2 (d : Nat) : ∀ (a : List Int) (k i : Nat), inP a → i + d = 8 → d + 12 ≤ k → spec_l2Digest.l2 k a i = some ((dgAll a (List.replicate d 0)).flatMap yb) := by
  induction d with
  | zero =>
    intro a k i h hi hk
    obtain ⟨k, rfl⟩ : ∃ m, k = m + 1 := ⟨k - 1, by omega⟩
    simp only [spec_l2Digest.l2]
    rw [if_neg (by omega), specDig_l3 a h k (by omega)]; rfl
  | succ d ih =>
    intro a k i h hi hk
    obtain ⟨k, rfl⟩ : ∃ m, k = m + 1 := ⟨k - 1, by omega⟩
    simp only [spec_l2Digest.l2]
    rw [if_pos (by omega), specMix_eq a h 0 (by omega) k (by omega)]
    simp only [Option.bind_some]
    rw [w64 (by omega) (by omega), show ((i : Int) + 1) = ((i + 1 : Nat) : Int) from rfl, ih (dgMix a 0) k (i + 1) (inP_mix h 0 (by omega)) (by omega) (by omega)]
    rfl
theorem wbyte {x : Int} (h : 0 ≤ x ∧ x ≤ 255) : wrap64 x = x := w64 (by omega) (by omega)
theorem drop_rd {l : List Int} {i : Nat} (h : i < l.length) : l.drop i = rd l i :: l.drop (i + 1) := by rw [List.drop_eq_getElem_cons h, rd_nat h]
theorem specDig_l1 (xs : List Int) (hx : isBytes xs) (hl : xs.length ≤ 1000000000) (d : Nat) : ∀ (a : List Int) (k i : Nat), inP a → i + d = xs.length → d + 24 ≤ k →
    spec_l2Digest.l1 k a xs (xs.length : Int) i = some ((dgAll (dgAll a (xs.drop i)) (List.replicate 8 0)).flatMap yb) := by
  induction d with
  | zero =>
    intro a k i h hi hk
    obtain ⟨k, rfl⟩ : ∃ m, k = m + 1 := ⟨k - 1, by omega⟩
    simp only [spec_l2Digest.l1]
    rw [if_neg (by omega), List.drop_of_length_le (by omega)]
    exact specDig_l2 8 a k 0 h (by omega) (by omega)
  | succ d ih =>
    intro a k i h hi hk
    obtain ⟨k, rfl⟩ : ∃ m, k = m + 1 := ⟨k - 1, by omega⟩
    have hlt : i < xs.length := by omega
    have hb := hx (rd xs i) (rd_mem hlt)
    simp only [spec_l2Digest.l1]
    rw [if_pos (by omega), if_pos (by omega), if_pos (by omega), wbyte hb, specMix_eq a h _ hb k (by omega)]
    simp only [Option.bind_some]
    rw [w64 (by omega) (by omega), show ((i : Int) + 1) = ((i + 1 : Nat) : Int) from rfl, ih _ k (i + 1) (inP_mix h _ hb.1) (by omega) (by omega), drop_rd hlt, dgAll_cons]
theorem specDig_l0 (xs ys : List Int) (hx : isBytes xs) (hl : xs.length ≤ 1000000000) (hly : ys.length ≤ 1000000000) (d : Nat) : ∀ (a : List Int) (k i : Nat), inP a → i + d = xs.length → d + 40 ≤ k →
    spec_l2Digest.l0 k ys a xs (xs.length : Int) i = some ((dgAll (dgAll (dgAll a (xs.drop i)) (yb ys.length)) (List.replicate 8 0)).flatMap yb) := by
  induction d with
  | zero =>
    intro a k i h hi hk
    obtain ⟨k, rfl⟩ : ∃ m, k = m + 1 := ⟨k - 1, by omega⟩
    simp only [spec_l2Digest.l0]
    rw [if_neg (by omega), List.drop_of_length_le (by omega), specBytes_eq _ (by omega) (by omega) k (by omega)]
    exact specDig_l1 (yb ys.length) (yb_bytes _) (by rw [yb_len]; omega) 4 a k 0 h (by rw [yb_len]) (by omega)
  | succ d ih =>
    intro a k i h hi hk
    obtain ⟨k, rfl⟩ : ∃ m, k = m + 1 := ⟨k - 1, by omega⟩
    have hlt : i < xs.length := by omega
    have hb := hx (rd xs i) (rd_mem hlt)
    simp only [spec_l2Digest.l0]
    rw [if_pos (by omega), if_pos (by omega), if_pos (by omega), wbyte hb, specMix_eq a h _ hb k (by omega)]
    simp only [Option.bind_some]
    rw [w64 (by omega) (by omega), show ((i : Int) + 1) = ((i + 1 : Nat) : Int) from rfl, ih _ k (i + 1) (inP_mix h _ hb.1) (by omega) (by omega), drop_rd hlt, dgAll_cons]
theorem specDigest_eq (l : List Int) (h : isBytes l) (hl : l.length ≤ 1000000000) (k : Nat) (hk : l.length + 40 ≤ k) : spec_l2Digest.f k l = some (dg l) := by
  have := specDig_l0 l l h hl hl l.length [11, 22, 33, 44] k 0 inP_start (by omega) hk
  simpa [spec_l2Digest.f, dg, dgS] using this
theorem specDigest_ev (l : List Int) (h : isBytes l) (hl : l.length ≤ 1000000000) : Ev (fun k => spec_l2Digest.f k l) (dg l) := ⟨_, fun k hk => specDigest_eq l h hl k hk⟩
theorem isBytes_flatMap_yb (a : List Int) : isBytes (a.flatMap yb) := by
  intro x hx
  obtain ⟨n, _, hn⟩ := List.mem_flatMap.1 hx
  exact yb_bytes n x hn
theorem dg_bytes (l : List Int) : isBytes (dg l) := isBytes_flatMap_yb _
theorem dgAll_len : ∀ (l a : List Int), (dgAll a l).length = a.length
  | [], _ => rfl
  | x :: l, a => by rw [dgAll_cons, dgAll_len l, dgMix, mix_len]
theorem dg_len (l : List Int) : (dg l).length = 16 := by
  have h : (dgS l).length = 4 := by simp [dgS, dgAll_len]
  unfold dg
  match dgS l, h with
  | [b0, b1, b2, b3], _ => rfl
theorem isBytes_append {a b : List Int} (h : isBytes a) (h2 : isBytes b) : isBytes (a ++ b) := fun x hx => (List.mem_append.1 hx).elim (h x) (h2 x)
theorem implDigest_eq (l : List Int) (h : isBytes l) (hl : l.length ≤ 20000) : impl_Digest.f l = some (dg l) := by
  unfold impl_Digest.f; rw [if_pos h, if_neg (by omega)]
theorem isBytes_okL {l : List Int} (h : okL okB l) : isBytes l := fun x hx => h.2 x hx
theorem bytesOf_isBytes (s : ByteArray) : isBytes (bytesOf s) := by
  intro x hx
  simp only [bytesOf, List.mem_map] at hx
  obtain ⟨b, _, rfl⟩ := hx
  have := b.toNat_lt
  omega
def macL (key data : List Int) : List Int := dg (dg key ++ dg data)
theorem specTwo_ev (a b : List Int) (ha : isBytes a) (hb : isBytes b) (la : a.length ≤ 100000000) (lb : b.length ≤ 100000000) : Ev (fun k => spec_l2Two.f k a b) (dg (a ++ b)) := by
  simp only [spec_l2Two.f, List.length_nil, Nat.zero_add, List.nil_append, if_pos (show a.length < 140737488355328 by omega), Option.bind_some, if_pos (show a.length + b.length < 140737488355328 by omega)]
  exact Ev.bind (specDigest_ev _ (isBytes_append ha hb) (by simp; omega)) (Ev.now _)
theorem specMac_ev (a b : List Int) (ha : isBytes a) (hb : isBytes b) (la : a.length ≤ 100000000) (lb : b.length ≤ 100000000) : Ev (fun k => spec_l2Mac.f k a b) (macL a b) := by
  simp only [spec_l2Mac.f]
  refine Ev.bind (specDigest_ev a ha (by omega)) ?_
  refine Ev.bind (specDigest_ev b hb (by omega)) ?_
  exact Ev.bind (specTwo_ev _ _ (dg_bytes a) (dg_bytes b) (by rw [dg_len]; omega) (by rw [dg_len]; omega)) (Ev.now _)
theorem implMac_ev (a b : List Int) (ha : isBytes a) (hb : isBytes b) (la : a.length ≤ 20000) (lb : b.length ≤ 20000) : Ev (fun k => impl_Mac.f k a b) (macL a b) := by
  refine ⟨1, fun k hk => ?_⟩
  obtain ⟨k, rfl⟩ : ∃ m, k = m + 1 := ⟨k - 1, by omega⟩
  show impl_Mac.f (k + 1) a b = _
  unfold impl_Mac.f
  rw [if_neg (by omega), decide_eq_false (by omega)]
  simp only [impl_Mac.j0, Bool.false_eq_true, if_false]
  rw [implDigest_eq a ha la]
  simp only [Option.bind_some]
  rw [implDigest_eq b hb lb]
  simp only [Option.bind_some]
  rw [if_pos (by rw [dg_len, dg_len]; omega), implDigest_eq _ (isBytes_append (dg_bytes a) (dg_bytes b)) (by rw [List.length_append, dg_len, dg_len]; omega)]
  rfl
theorem bytesOfS_eq (s : ByteArray) (h : s.size ≤ 9223372036854775807) : bytesOfS.f s = some (bytesOf s) := by unfold bytesOfS.f; rw [if_pos h]
def coverL (what : ByteArray) (salt cover : List Int) : List Int := if cover.length = 0 then macL salt (bytesOf what) else cover
theorem good_open {t : Int} {who what : ByteArray} {salt cover : List Int} (h : goodEntry t who what salt cover = true) (hc : cover.length = 0) : what.size ≤ 200 ∧ salt.length ≤ 20 := by
  unfold goodEntry at h
  split at h; · cases h
  split at h; · cases h
  split at h; · cases h
  split at h; · cases h
  simp only [Bool.and_eq_true, decide_eq_true_eq] at h
  omega
theorem good_who {t : Int} {who what : ByteArray} {salt cover : List Int} (h : goodEntry t who what salt cover = true) : 0 ≤ t ∧ t ≤ 100000000000 ∧ who.size ≤ 60 := by
  unfold goodEntry at h
  split at h; · cases h
  split at h; · cases h
  split at h; · cases h
  omega
theorem good_closed {t : Int} {who what : ByteArray} {salt cover : List Int} (h : goodEntry t who what salt cover = true) (hc : cover.length ≠ 0) : cover.length = 16 := by
  unfold goodEntry at h
  split at h; · cases h
  split at h; · cases h
  split at h; · cases h
  split at h; · cases h
  simp only [Bool.and_eq_true, decide_eq_true_eq] at h
  exact h.1.1
theorem coverL_len {t : Int} {who what : ByteArray} {salt cover : List Int} (h : goodEntry t who what salt cover = true) : (coverL what salt cover).length = 16 := by
  unfold coverL
  split
  · rw [macL, dg_len]
  · exact good_closed h (by assumption)
theorem coverL_bytes (what : ByteArray) (salt : List Int) {cover : List Int} (h : isBytes cover) : isBytes (coverL what salt cover) := by
  unfold coverL
  split
  · exact dg_bytes _
  · exact h
theorem specCover_ev (t : Int) (who what : ByteArray) (salt cover : List Int) (hg : goodEntry t who what salt cover = true) (hs : isBytes salt) : Ev (fun k => spec_l21Cover.f k t who what salt cover) (coverL what salt cover) := by
  unfold coverL
  by_cases hc : cover.length = 0
  · obtain ⟨h1, h2⟩ := good_open hg hc
    simp only [spec_l21Cover.f, spec_l21Open.f, hc, Option.bind_some, bytesOfS_eq what (by omega), if_true, beq_self_eq_true, Int.natCast_zero]
    exact Ev.bind (specMac_ev salt (bytesOf what) hs (bytesOf_isBytes what) (by omega) (by rw [bytesOf_length]; omega)) (Ev.now _)
  · have h16 := good_closed hg hc
    simp only [spec_l21Cover.f, spec_l21Open.f, Option.bind_some, beq_iff_eq, List.length_nil, Nat.zero_add, List.nil_append, if_neg (show ¬ ((cover.length : Int) = 0) by omega), if_pos (show cover.length < 140737488355328 by omega), if_neg hc]
    exact Ev.now _
theorem implCoverOf_ev (t : Int) (who what : ByteArray) (salt cover : List Int) (h1 : okS who) (h2 : okS what) (hs : isBytes salt) :
    Ev (fun k => impl_CoverOf.f k t who what salt cover) (if goodEntry t who what salt cover = true then coverL what salt cover else []) := by
  simp only [impl_CoverOf.f]
  refine Ev.bind ⟨_, fun k hk => implGood_eq t who what salt cover h1 h2 k hk⟩ ?_
  by_cases hg : goodEntry t who what salt cover = true
  · simp only [if_pos hg]
    unfold coverL
    by_cases hc : cover.length = 0
    · obtain ⟨h3, h4⟩ := good_open hg hc
      simp only [if_pos hc, if_neg (show ¬ ((cover.length : Int) > 0) by omega), bytesOfS_eq what (by omega), Option.bind_some]
      exact Ev.bind (implMac_ev salt (bytesOf what) hs (bytesOf_isBytes what) (by omega) (by rw [bytesOf_length]; omega)) (Ev.now _)
    · have h16 := good_closed hg hc
      simp only [if_neg hc, if_pos (show (cover.length : Int) > 0 by omega), bytes_Clone.f, if_pos (show cover.length ≤ 140737488355328 by omega), Option.bind_some]
      exact Ev.now _
  · simp only [if_neg hg]
    exact Ev.now _
def leafL (t : Int) (who what : ByteArray) (salt cover : List Int) : List Int := dg ([0] ++ yb t ++ yb (t / 4294967296) ++ dg (bytesOf who) ++ coverL what salt cover)
theorem leafL_len (t : Int) (who what : ByteArray) (salt cover : List Int) : (leafL t who what salt cover).length = 16 := dg_len _
theorem leafL_bytes (t : Int) (who what : ByteArray) (salt cover : List Int) : isBytes (leafL t who what salt cover) := dg_bytes _
theorem yb_low (t : Int) (h0 : 0 ≤ t) : yb (Int.tmod t 4294967296) = yb t := by
  rw [Int.tmod_eq_emod_of_nonneg h0]
  simp only [yb, List.cons.injEq, and_true]
  omega
theorem high_eq (t : Int) (h0 : 0 ≤ t) (h1 : t ≤ 100000000000) : wrap64 (Int.tdiv t 4294967296) = t / 4294967296 := by
  rw [Int.tdiv_eq_ediv_of_nonneg h0]
  exact w64 (by omega) (by omega)
theorem zero_bytes : isBytes [0] := by
  intro x hx
  simp at hx
  omega
theorem leaf_parts (t : Int) (who what : ByteArray) {salt cover : List Int} (hc : isBytes cover) : isBytes ([0] ++ yb t ++ yb (t / 4294967296) ++ dg (bytesOf who) ++ coverL what salt cover) :=
  isBytes_append (isBytes_append (isBytes_append (isBytes_append zero_bytes (yb_bytes _)) (yb_bytes _)) (dg_bytes _)) (coverL_bytes what salt hc)
theorem specLeaf_ev (t : Int) (who what : ByteArray) (salt cover : List Int) (hg : goodEntry t who what salt cover = true) (hs : isBytes salt) (hc : isBytes cover) : Ev (fun k => spec_l21Leaf.f k t who what salt cover) (leafL t who what salt cover) := by
  obtain ⟨g0, g1, g2⟩ := good_who hg
  have hl := coverL_len hg
  have hd := dg_len (bytesOf who)
  have hy := fun n => yb_len n
  simp only [spec_l21Leaf.f, Option.bind_some, high_eq t g0 g1]
  have b1 : Ev (fun k => spec_l2Bytes.f k (Int.tmod t 4294967296)) (yb t) := ⟨5, fun k hk => by show spec_l2Bytes.f k (Int.tmod t 4294967296) = _; rw [specBytes_eq _ (by rw [Int.tmod_eq_emod_of_nonneg g0]; omega) (by rw [Int.tmod_eq_emod_of_nonneg g0]; omega) k hk, yb_low t g0]⟩
  refine Ev.bind b1 ?_
  simp only [if_pos (show ([0] : List Int).length + (yb t).length < 140737488355328 by rw [hy]; simp)]
  refine Ev.bind ⟨5, fun k hk => specBytes_eq (t / 4294967296) (by omega) (by omega) k hk⟩ ?_
  simp only [if_pos (show (([0] : List Int) ++ yb t).length + (yb (t / 4294967296)).length < 140737488355328 by rw [List.length_append, hy, hy]; simp), bytesOfS_eq who (by omega), Option.bind_some]
  refine Ev.bind (specDigest_ev (bytesOf who) (bytesOf_isBytes who) (by rw [bytesOf_length]; omega)) ?_
  simp only [if_pos (show (([0] : List Int) ++ yb t ++ yb (t / 4294967296)).length + (dg (bytesOf who)).length < 140737488355328 by simp only [List.length_append, hy, hd]; simp)]
  refine Ev.bind (specCover_ev t who what salt cover hg hs) ?_
  simp only [if_pos (show (([0] : List Int) ++ yb t ++ yb (t / 4294967296) ++ dg (bytesOf who)).length + (coverL what salt cover).length < 140737488355328 by simp only [List.length_append, hy, hd, hl]; simp)]
  exact Ev.bind (specDigest_ev _ (leaf_parts t who what hc) (by simp only [List.length_append, hy, hd, hl]; simp)) (Ev.now _)
theorem concat_eq (ls : List (List Int)) (h : ls.flatten.length ≤ 140737488355328) : slices_Concat_byte_byte.f ls = some ls.flatten := by
  unfold slices_Concat_byte_byte.f
  rw [if_pos h]
theorem implLeafOf_ev (t : Int) (who what : ByteArray) (salt cover : List Int) (h1 : okS who) (h2 : okS what) (hs : isBytes salt) (hc : isBytes cover) :
    Ev (fun k => impl_LeafOf.f k t who what salt cover) (if goodEntry t who what salt cover = true then leafL t who what salt cover else []) := by
  simp only [impl_LeafOf.f]
  refine Ev.bind ⟨_, fun k hk => implGood_eq t who what salt cover h1 h2 k hk⟩ ?_
  by_cases hg : goodEntry t who what salt cover = true
  · obtain ⟨g0, g1, g2⟩ := good_who hg
    have hl := coverL_len hg
    have hd := dg_len (bytesOf who)
    have hy := fun n => yb_len n
    have y1 : ∀ n, impl_ybytes.f n = some (yb n) := fun n => rfl
    have hco := implCoverOf_ev t who what salt cover h1 h2 hs
    rw [if_pos hg] at hco
    have hfl : ([[0], yb t, yb (t / 4294967296), dg (bytesOf who), coverL what salt cover] : List (List Int)).flatten = [0] ++ yb t ++ yb (t / 4294967296) ++ dg (bytesOf who) ++ coverL what salt cover := by simp
    have hcat := concat_eq [[0], yb t, yb (t / 4294967296), dg (bytesOf who), coverL what salt cover] (by rw [hfl]; simp only [List.length_append, hy, hd, hl]; simp)
    rw [hfl] at hcat
    simp only [if_pos hg, y1, Option.bind_some, bytesOfS_eq who (by omega), implDigest_eq (bytesOf who) (bytesOf_isBytes who) (by rw [bytesOf_length]; omega)]
    refine Ev.bind hco ?_
    simp only [hcat, Option.bind_some, implDigest_eq _ (leaf_parts t who what (salt := salt) hc) (by simp only [List.length_append, hy, hd, hl]; simp)]
    exact Ev.now _
  · simp only [if_neg hg]
    exact Ev.now _
open Go.RowKit Go.Proofs.Ytipdkendfcopiaa.Read Go.Proofs.YtipdkendfcopiaaW.PrintWords Go.Proofs.YtipdkendfcopiaaW.PrintLast Go.Proofs.YtipdkendfcopiaaW.PrintMore
def cutL (n : Int) : Int := (impl_yhalf.f 300 n).getD 1
theorem cut_fin : ∀ n : Fin 201, 2 ≤ n.val → spec_l21Cut.f 300 (n.val : Int) = some (cutL n.val) ∧ impl_yhalf.f 300 (n.val : Int) = some (cutL n.val) ∧ 1 ≤ cutL n.val ∧ cutL n.val < n.val := by decide +kernel
theorem cut_facts (n : Int) (h0 : 2 ≤ n) (h1 : n ≤ 200) : spec_l21Cut.f 300 n = some (cutL n) ∧ impl_yhalf.f 300 n = some (cutL n) ∧ 1 ≤ cutL n ∧ cutL n < n := by
  obtain ⟨m, rfl⟩ : ∃ m : Nat, n = m := ⟨n.toNat, by omega⟩
  exact cut_fin ⟨m, by omega⟩ (by show 2 ≤ m; omega)
def nodeL (a b : List Int) : List Int := dg ([1] ++ a ++ b)
def six (b : List Int) : Prop := isBytes b ∧ b.length ≤ 16
theorem one_bytes : isBytes [1] := by
  intro x hx
  simp at hx
  omega
theorem node_six (a b : List Int) : six (nodeL a b) := ⟨dg_bytes _, by unfold nodeL; rw [dg_len]; omega⟩
theorem node_len (a b : List Int) : (nodeL a b).length = 16 := dg_len _
theorem specNode_eq (a b : List Int) (ha : six a) (hb : six b) : spec_l21Node.f 1000 a b = some (nodeL a b) := by
  have h1 := ha.2
  have h2 := hb.2
  unfold spec_l21Node.f
  simp only [Option.bind_some, if_pos (show ([1] : List Int).length + a.length < 140737488355328 by simp; omega), if_pos (show (([1] : List Int) ++ a).length + b.length < 140737488355328 by simp; omega)]
  rw [specDigest_eq _ (isBytes_append (isBytes_append one_bytes ha.1) hb.1) (by simp; omega) 1000 (by simp; omega)]
  rfl
theorem implNode_eq (a b : List Int) (ha : six a) (hb : six b) : impl_yboth.f a b = some (nodeL a b) := by
  have h1 := ha.2
  have h2 := hb.2
  have hf : ([[1], a, b] : List (List Int)).flatten = [1] ++ a ++ b := by simp
  have e : slices_Concat_byte_byte.f [[1], a, b] = some ([1] ++ a ++ b) := by
    unfold slices_Concat_byte_byte.f
    rw [hf, if_pos (by simp; omega)]
  unfold impl_yboth.f
  rw [e, Option.bind_some, implDigest_eq _ (isBytes_append (isBytes_append one_bytes ha.1) hb.1) (by simp; omega)]
  rfl
attribute [irreducible] nodeL
def upL (leaf : List Int) (path : List (List Int)) : Nat → Int → Int → List Int × Bool
  | 0, _, size => if size = 1 then (leaf, true) else ([], false)
  | n + 1, at_, size => if size = 1 then (leaf, false) else if at_ < cutL size then (nodeL (upL leaf path n at_ (cutL size)).1 (rd_L2 path n), (upL leaf path n at_ (cutL size)).2) else (nodeL (rd_L2 path n) (upL leaf path n (at_ - cutL size) (size - cutL size)).1, (upL leaf path n (at_ - cutL size) (size - cutL size)).2)
theorem Ev.upR {α : Type} {g : Nat → Option α} {r : α} (h : Ev (fun k => g (k + 1)) r) : Ev g r := by
  obtain ⟨n, h⟩ := h
  refine ⟨n + 1, fun k hk => ?_⟩
  obtain ⟨k, rfl⟩ : ∃ m, k = m + 1 := ⟨k - 1, by omega⟩
  exact h k (by omega)
def okR (e : S27) : Prop := okS e.f1 ∧ okS e.f2 ∧ isBytes e.f3 ∧ isBytes e.f4
def goodS (e : S27) : Bool := goodEntry e.f0 e.f1 e.f2 e.f3 e.f4
def leafS (e : S27) : List Int := leafL e.f0 e.f1 e.f2 e.f3 e.f4
def goodLog (l : List S27) : Prop := l.length ≤ 200 ∧ ∀ e ∈ l, goodS e = true
instance (l : List S27) : Decidable (goodLog l) := by unfold goodLog; infer_instance
def leavesL (l : List S27) : List (List Int) × Bool := if goodLog l then (l.map leafS, true) else ([], false)
theorem leafS_len (e : S27) : (leafS e).length = 16 := leafL_len _ _ _ _ _
theorem leafS_bytes (e : S27) : isBytes (leafS e) := leafL_bytes _ _ _ _ _
attribute [irreducible] leafS goodS
theorem implLeafS_ev (e : S27) (h : okR e) : Ev (fun k => impl_LeafOf.f k e.f0 e.f1 e.f2 e.f3 e.f4) (if goodS e = true then leafS e else []) := by
  unfold goodS leafS
  exact implLeafOf_ev e.f0 e.f1 e.f2 e.f3 e.f4 h.1 h.2.1 h.2.2.1 h.2.2.2
theorem specGoodS_ev (e : S27) (h : okR e) : Ev (fun k => spec_GoodLogEntry.f k e.f0 e.f1 e.f2 e.f3 e.f4) (goodS e) := by
  unfold goodS
  exact ⟨_, fun k hk => specGood_eq e.f0 e.f1 e.f2 e.f3 e.f4 h.1 h.2.1 k hk⟩
theorem specLeafS_ev (e : S27) (h : okR e) (hg : goodS e = true) : Ev (fun k => spec_l21Leaf.f k e.f0 e.f1 e.f2 e.f3 e.f4) (leafS e) := by
  unfold leafS
  unfold goodS at hg
  exact specLeaf_ev e.f0 e.f1 e.f2 e.f3 e.f4 hg h.2.2.1 h.2.2.2
theorem rdT_nat {l : List S27} {i : Nat} (h : i < l.length) : rd_T27 l (i : Int) = l[i] := by simp [rd_T27, List.getD_eq_getElem?_getD, List.getElem?_eq_getElem h]
theorem map_take_succ {l : List S27} {i : Nat} (h : i < l.length) : (l.take i).map leafS ++ [leafS l[i]] = (l.take (i + 1)).map leafS := by
  rw [List.take_succ_eq_append_getElem h, List.map_append, List.map_singleton]
theorem leaves_bad {l : List S27} {i : Nat} (h : i < l.length) (hg : ¬ goodS l[i] = true) : leavesL l = ([], false) := if_neg (fun g => hg (g.2 _ (List.getElem_mem h)))
theorem leaves_all {l : List S27} (hl : l.length ≤ 200) (h : ∀ e ∈ l, goodS e = true) : leavesL l = (l.map leafS, true) := if_pos ⟨hl, h⟩
theorem taken_good {l : List S27} {i : Nat} (h : i < l.length) (hg : ∀ e ∈ l.take i, goodS e = true) (hi : goodS l[i] = true) : ∀ e ∈ l.take (i + 1), goodS e = true := by
  intro e he
  rw [List.take_succ_eq_append_getElem h] at he
  rcases List.mem_append.1 he with he | he
  · exact hg e he
  · obtain rfl := List.mem_singleton.1 he
    exact hi
theorem implLeaves_l0 (l : List S27) (hl : l.length ≤ 200) (hok : ∀ e ∈ l, okR e) (d : Nat) : ∀ i, i + d = l.length → (∀ e ∈ l.take i, goodS e = true) → Ev (fun k => impl_yleaves.l0 k ((l.take i).map leafS) l (l.length : Int) (i : Int)) (leavesL l) := by
  induction d with
  | zero =>
    intro i hi hg
    obtain rfl : i = l.length := by omega
    rw [List.take_length] at hg ⊢
    refine Ev.upR ?_
    simp only [impl_yleaves.l0, if_neg (show ¬ ((l.length : Int) < (l.length : Int)) by omega)]
    rw [leaves_all hl hg]
    exact Ev.now _
  | succ d ih =>
    intro i hi hg
    have hlt : i < l.length := by omega
    refine Ev.upR ?_
    have ew : wrap64 ((i : Int) + 1) = ((i + 1 : Nat) : Int) := by rw [w64 (by omega) (by omega)]; rfl
    have hlen : ((l.take i).map leafS).length < 5864062014805 := by rw [List.length_map, List.length_take]; omega
    simp only [impl_yleaves.l0, if_pos (show (i : Int) < (l.length : Int) by omega), if_pos (Int.natCast_nonneg i), ew, rdT_nat hlt]
    refine Ev.bind (implLeafS_ev l[i] (hok _ (List.getElem_mem hlt))) ?_
    by_cases hgi : goodS l[i] = true
    · simp only [if_pos hgi, nilS.f, Option.bind_some]
      rw [decide_eq_false (by rw [leafS_len]; omega)]
      simp only [Bool.false_eq_true, if_false, if_pos hlen]
      rw [map_take_succ hlt]
      exact ih (i + 1) (by omega) (taken_good hlt hg hgi)
    · simp only [if_neg hgi, nilS.f, Option.bind_some, List.length_nil, decide_true, if_true]
      rw [leaves_bad hlt hgi]
      exact Ev.now _
theorem implLeaves_ev (l : List S27) (hok : ∀ e ∈ l, okR e) : Ev (fun k => impl_yleaves.f k l) (leavesL l) := by
  simp only [impl_yleaves.f]
  by_cases h : (l.length : Int) > 200
  · simp only [if_pos h]
    rw [show leavesL l = ([], false) from if_neg (fun g => by have := g.1; omega)]
    exact Ev.now _
  · simp only [if_neg h]
    exact implLeaves_l0 l (by omega) hok l.length 0 (by omega) (fun e he => by simp at he)
theorem specLeaves_l0 (l : List S27) (hl : l.length ≤ 200) (hok : ∀ e ∈ l, okR e) (d : Nat) : ∀ i, i + d = l.length → (∀ e ∈ l.take i, goodS e = true) → Ev (fun k => spec_l21Leaves.l0 k ((l.take i).map leafS) l (l.length : Int) (i : Int)) (leavesL l) := by
  induction d with
  | zero =>
    intro i hi hg
    obtain rfl : i = l.length := by omega
    rw [List.take_length] at hg ⊢
    refine Ev.upR ?_
    simp only [spec_l21Leaves.l0, if_neg (show ¬ ((l.length : Int) < (l.length : Int)) by omega)]
    rw [leaves_all hl hg]
    exact Ev.now _
  | succ d ih =>
    intro i hi hg
    have hlt : i < l.length := by omega
    refine Ev.upR ?_
    have ew : wrap64 ((i : Int) + 1) = ((i + 1 : Nat) : Int) := by rw [w64 (by omega) (by omega)]; rfl
    have hlen : ((l.take i).map leafS).length < 5864062014805 := by rw [List.length_map, List.length_take]; omega
    simp only [spec_l21Leaves.l0, if_pos (show (i : Int) < (l.length : Int) by omega), if_pos (Int.natCast_nonneg i), ew, rdT_nat hlt]
    refine Ev.bind (specGoodS_ev l[i] (hok _ (List.getElem_mem hlt))) ?_
    by_cases hgi : goodS l[i] = true
    · simp only [hgi, if_true]
      refine Ev.bind (specLeafS_ev l[i] (hok _ (List.getElem_mem hlt)) hgi) ?_
      simp only [if_pos hlen]
      rw [map_take_succ hlt]
      exact ih (i + 1) (by omega) (taken_good hlt hg hgi)
    · simp only [if_neg hgi]
      rw [leaves_bad hlt hgi]
      exact Ev.now _
theorem specLeaves_ev (l : List S27) (hok : ∀ e ∈ l, okR e) : Ev (fun k => spec_l21Leaves.f k l) (leavesL l) := by
  simp only [spec_l21Leaves.f]
  by_cases h : (l.length : Int) > 200
  · simp only [if_pos h]
    rw [show leavesL l = ([], false) from if_neg (fun g => by have := g.1; omega)]
    exact Ev.now _
  · simp only [if_neg h]
    exact specLeaves_l0 l (by omega) hok l.length 0 (by omega) (fun e he => by simp at he)
def cutN (n : Nat) : Nat := (cutL (n : Int)).toNat
theorem cutN_facts {n : Nat} (h0 : 2 ≤ n) (h1 : n ≤ 200) : (cutL (n : Int)) = (cutN n : Int) ∧ 1 ≤ cutN n ∧ cutN n < n := by
  obtain ⟨_, _, h2, h3⟩ := cut_facts (n : Int) (by omega) (by omega)
  unfold cutN
  omega
def rootF : Nat → List (List Int) → List Int
  | 0, _ => []
  | n + 1, l => if l.length = 0 then dg [] else if l.length = 1 then rd_L2 l 0 else nodeL (rootF n (l.take (cutN l.length))) (rootF n (l.drop (cutN l.length)))
theorem rootF_fuel (n : Nat) : ∀ (m : Nat) (l : List (List Int)), l.length ≤ 200 → l.length < n → l.length < m → rootF n l = rootF m l := by
  induction n with
  | zero => intro m l _ h; omega
  | succ n ih =>
    intro m l h200 h1 h2
    obtain ⟨m, rfl⟩ : ∃ k, m = k + 1 := ⟨m - 1, by omega⟩
    simp only [rootF]
    by_cases c0 : l.length = 0
    · rw [if_pos c0, if_pos c0]
    by_cases c1 : l.length = 1
    · rw [if_neg c0, if_neg c0, if_pos c1, if_pos c1]
    rw [if_neg c0, if_neg c0, if_neg c1, if_neg c1]
    obtain ⟨_, q1, q2⟩ := cutN_facts (n := l.length) (by omega) h200
    rw [ih m (l.take (cutN l.length)) (by rw [List.length_take]; omega) (by rw [List.length_take]; omega) (by rw [List.length_take]; omega), ih m (l.drop (cutN l.length)) (by rw [List.length_drop]; omega) (by rw [List.length_drop]; omega) (by rw [List.length_drop]; omega)]
def rootL (l : List (List Int)) : List Int := rootF 201 l
theorem rootL_nil {l : List (List Int)} (h : l.length = 0) : rootL l = dg [] := by
  show rootF (200 + 1) l = _
  rw [rootF, if_pos h]
theorem rootL_one {l : List (List Int)} (h : l.length = 1) : rootL l = rd_L2 l 0 := by
  show rootF (200 + 1) l = _
  rw [rootF, if_neg (by omega), if_pos h]
theorem rootL_node {l : List (List Int)} (h : 2 ≤ l.length) (h2 : l.length ≤ 200) : rootL l = nodeL (rootL (l.take (cutN l.length))) (rootL (l.drop (cutN l.length))) := by
  obtain ⟨_, q1, q2⟩ := cutN_facts h h2
  show rootF (200 + 1) l = _
  rw [rootF, if_neg (by omega), if_neg (by omega)]
  unfold rootL
  rw [rootF_fuel 200 201 (l.take (cutN l.length)) (by rw [List.length_take]; omega) (by rw [List.length_take]; omega) (by rw [List.length_take]; omega), rootF_fuel 200 201 (l.drop (cutN l.length)) (by rw [List.length_drop]; omega) (by rw [List.length_drop]; omega) (by rw [List.length_drop]; omega)]
def sixt (l : List (List Int)) : Prop := ∀ b ∈ l, isBytes b ∧ b.length = 16
theorem sixt_take {l : List (List Int)} (h : sixt l) (n : Nat) : sixt (l.take n) := fun b hb => h b (List.mem_of_mem_take hb)
theorem sixt_drop {l : List (List Int)} (h : sixt l) (n : Nat) : sixt (l.drop n) := fun b hb => h b (List.mem_of_mem_drop hb)
theorem sixt_rd {l : List (List Int)} (h : sixt l) {i : Nat} (hi : i < l.length) : isBytes (rd_L2 l (i : Int)) ∧ (rd_L2 l (i : Int)).length = 16 := by
  have : rd_L2 l (i : Int) = l[i] := by simp [rd_L2, List.getD_eq_getElem?_getD, List.getElem?_eq_getElem hi]
  rw [this]
  exact h _ (List.getElem_mem hi)
theorem rootL_six (n : Nat) : ∀ l : List (List Int), l.length ≤ n → l.length ≤ 200 → sixt l → isBytes (rootL l) ∧ (rootL l).length = 16 := by
  induction n with
  | zero =>
    intro l hn _ _
    rw [rootL_nil (by omega)]
    exact ⟨dg_bytes _, dg_len _⟩
  | succ n ih =>
    intro l hn h200 hs
    by_cases c0 : l.length = 0
    · rw [rootL_nil c0]
      exact ⟨dg_bytes _, dg_len _⟩
    by_cases c1 : l.length = 1
    · rw [rootL_one c1]
      exact sixt_rd hs (i := 0) (by omega)
    · rw [rootL_node (by omega) h200]
      exact ⟨(node_six _ _).1, node_len _ _⟩
theorem root_ok {l : List (List Int)} (h200 : l.length ≤ 200) (hs : sixt l) : isBytes (rootL l) ∧ (rootL l).length = 16 := rootL_six l.length l (Nat.le_refl _) h200 hs
theorem root_six {l : List (List Int)} (h200 : l.length ≤ 200) (hs : sixt l) : six (rootL l) := ⟨(root_ok h200 hs).1, by rw [(root_ok h200 hs).2]; omega⟩
theorem half_ev {n : Nat} (h0 : 2 ≤ n) (h1 : n ≤ 200) : Ev (fun k => impl_yhalf.f k (n : Int)) (cutN n : Int) := by
  obtain ⟨_, h2, _, _⟩ := cut_facts (n : Int) (by omega) (by omega)
  rw [(cutN_facts h0 h1).1] at h2
  exact Ev.of (fun k => impl_yhalf.mono _ k) h2
theorem cut_ev {n : Nat} (h0 : 2 ≤ n) (h1 : n ≤ 200) : Ev (fun k => spec_l21Cut.f k (n : Int)) (cutN n : Int) := by
  obtain ⟨h2, _, _, _⟩ := cut_facts (n : Int) (by omega) (by omega)
  rw [(cutN_facts h0 h1).1] at h2
  exact Ev.of (fun k => spec_l21Cut.mono _ k) h2
theorem node_ev {a b : List Int} (ha : six a) (hb : six b) : Ev (fun k => spec_l21Node.f k a b) (nodeL a b) := Ev.of (fun k => spec_l21Node.mono _ _ k) (specNode_eq a b ha hb)
theorem empty_dg : impl_Digest.f [] = some (dg []) := implDigest_eq [] (fun x hx => absurd hx List.not_mem_nil) (by simp)
theorem implRoot_aux (n : Nat) : ∀ l : List (List Int), l.length ≤ n → l.length ≤ 200 → sixt l → Ev (fun k => impl_yroot.f k l) (rootL l) := by
  induction n with
  | zero =>
    intro l hn _ _
    refine Ev.upR ?_
    simp only [impl_yroot.f, if_pos (show (l.length : Int) = 0 by omega), empty_dg, Option.bind_some]
    rw [rootL_nil (by omega)]
    exact Ev.now _
  | succ n ih =>
    intro l hn h200 hs
    refine Ev.upR ?_
    by_cases c0 : l.length = 0
    · simp only [impl_yroot.f, if_pos (show (l.length : Int) = 0 by omega), empty_dg, Option.bind_some]
      rw [rootL_nil c0]
      exact Ev.now _
    by_cases c1 : l.length = 1
    · have h16 := (sixt_rd hs (i := 0) (by omega)).2
      simp only [impl_yroot.f, if_neg (show ¬ (l.length : Int) = 0 by omega), if_pos (show (l.length : Int) = 1 by omega), if_pos (show (0 : Int) < (l.length : Int) by omega), bytes_Clone.f, if_pos (show (rd_L2 l 0).length ≤ 140737488355328 by rw [show ((0 : Int)) = ((0 : Nat) : Int) from rfl, h16]; omega), Option.bind_some]
      rw [rootL_one c1]
      exact Ev.now _
    · obtain ⟨_, q1, q2⟩ := cutN_facts (n := l.length) (by omega) h200
      simp only [impl_yroot.f, if_neg (show ¬ (l.length : Int) = 0 by omega), if_neg (show ¬ (l.length : Int) = 1 by omega)]
      refine Ev.bind (half_ev (n := l.length) (by omega) h200) ?_
      simp only [if_pos (Int.natCast_nonneg (cutN l.length)), if_pos (show ((cutN l.length : Nat) : Int) ≤ (l.length : Int) by omega), Int.toNat_natCast]
      have e1 := ih (l.take (cutN l.length)) (by rw [List.length_take]; omega) (by rw [List.length_take]; omega) (sixt_take hs _)
      have e2 := ih (l.drop (cutN l.length)) (by rw [List.length_drop]; omega) (by rw [List.length_drop]; omega) (sixt_drop hs _)
      refine Ev.bind e1 ?_
      refine Ev.bind e2 ?_
      simp only [implNode_eq _ _ (root_six (l := l.take (cutN l.length)) (by rw [List.length_take]; omega) (sixt_take hs _)) (root_six (l := l.drop (cutN l.length)) (by rw [List.length_drop]; omega) (sixt_drop hs _)), Option.bind_some]
      rw [rootL_node (by omega) h200]
      exact Ev.now _
theorem specRoot_aux (n : Nat) : ∀ l : List (List Int), l.length ≤ n → l.length ≤ 200 → sixt l → Ev (fun k => spec_l21Root.f k l) (rootL l) := by
  induction n with
  | zero =>
    intro l hn _ _
    refine Ev.upR ?_
    simp only [spec_l21Root.f, if_pos (show (l.length : Int) = 0 by omega)]
    rw [rootL_nil (by omega)]
    exact Ev.bind (specDigest_ev [] (fun x hx => absurd hx List.not_mem_nil) (by simp)) (Ev.now _)
  | succ n ih =>
    intro l hn h200 hs
    refine Ev.upR ?_
    by_cases c0 : l.length = 0
    · simp only [spec_l21Root.f, if_pos (show (l.length : Int) = 0 by omega)]
      rw [rootL_nil c0]
      exact Ev.bind (specDigest_ev [] (fun x hx => absurd hx List.not_mem_nil) (by simp)) (Ev.now _)
    by_cases c1 : l.length = 1
    · simp only [spec_l21Root.f, if_neg (show ¬ (l.length : Int) = 0 by omega), if_pos (show (l.length : Int) = 1 by omega), if_pos (show (0 : Int) < (l.length : Int) by omega)]
      rw [rootL_one c1]
      exact Ev.now _
    · obtain ⟨_, q1, q2⟩ := cutN_facts (n := l.length) (by omega) h200
      simp only [spec_l21Root.f, if_neg (show ¬ (l.length : Int) = 0 by omega), if_neg (show ¬ (l.length : Int) = 1 by omega)]
      refine Ev.bind (cut_ev (n := l.length) (by omega) h200) ?_
      simp only [if_pos (Int.natCast_nonneg (cutN l.length)), if_pos (show ((cutN l.length : Nat) : Int) ≤ (l.length : Int) by omega), Int.toNat_natCast]
      have e1 := ih (l.take (cutN l.length)) (by rw [List.length_take]; omega) (by rw [List.length_take]; omega) (sixt_take hs _)
      have e2 := ih (l.drop (cutN l.length)) (by rw [List.length_drop]; omega) (by rw [List.length_drop]; omega) (sixt_drop hs _)
      refine Ev.bind e1 ?_
      refine Ev.bind e2 ?_
      refine Ev.bind (node_ev (root_six (l := l.take (cutN l.length)) (by rw [List.length_take]; omega) (sixt_take hs _)) (root_six (l := l.drop (cutN l.length)) (by rw [List.length_drop]; omega) (sixt_drop hs _))) ?_
      rw [rootL_node (by omega) h200]
      exact Ev.now _
theorem sixt_leaves (l : List S27) : sixt (l.map leafS) := by
  intro b hb
  obtain ⟨e, he, rfl⟩ := List.mem_map.1 hb
  exact ⟨leafS_bytes e, leafS_len e⟩
def logRoot (l : List S27) : List Int := if goodLog l then rootL (l.map leafS) else []
theorem implRootOf_ev (l : List S27) (hok : ∀ e ∈ l, okR e) : Ev (fun k => impl_RootOf.f k l) (logRoot l) := by
  simp only [impl_RootOf.f]
  refine Ev.bind (implLeaves_ev l hok) ?_
  unfold leavesL logRoot
  by_cases hg : goodLog l
  · simp only [if_pos hg, if_true]
    exact Ev.bind (implRoot_aux _ (l.map leafS) (Nat.le_refl _) (by rw [List.length_map]; exact hg.1) (sixt_leaves l)) (Ev.now _)
  · simp only [if_neg hg, Bool.false_eq_true, if_false]
    exact Ev.now _
theorem logRoot_len {l : List S27} (hg : goodLog l) : (logRoot l).length = 16 := by
  unfold logRoot
  rw [if_pos hg]
  exact (root_ok (by rw [List.length_map]; exact hg.1) (sixt_leaves l)).2
theorem Ev.upL {α : Type} {g : Nat → Option α} {r : α} (h : Ev (fun k => g (k + 1)) r) : Ev g r := by
  obtain ⟨n, h⟩ := h
  refine ⟨n + 1, fun k hk => ?_⟩
  obtain ⟨k, rfl⟩ : ∃ m, k = m + 1 := ⟨k - 1, by omega⟩
  exact h k (by omega)
def toL (e : S24) : S27 := ⟨e.f0, e.f1, e.f2, e.f3, e.f4⟩
def okX (e : S24) : Prop := okS e.f1 ∧ okS e.f2 ∧ okL okB e.f3 ∧ okL okB e.f4
def smallX (e : S24) : Prop := e.f3.length ≤ 1048576 ∧ e.f4.length ≤ 1048576
theorem szLogEntry_gen (t : Int) (who what : ByteArray) (salt cover : List Int) (h1 : okS who) (h2 : okS what) (h3 : okL okB salt) (h4 : okL okB cover) (left : Int) (l0 : 0 ≤ left) (l1 : left ≤ 1048576) :
    ∃ r, laws_szLogEntry.f t who what salt cover left = some r ∧ r ≤ 1048576 ∧ (¬ r < 0 → salt.length ≤ 1048576 ∧ cover.length ≤ 1048576) := by
  unfold okS at h1 h2
  have h3 := h3.1
  have h4 := h4.1
  unfold laws_szLogEntry.f
  rw [w64 (by omega) (by omega)]
  by_cases e1 : left - who.size < 0
  · exact ⟨_, by rw [if_pos e1], by omega, by omega⟩
  rw [if_neg e1, w64 (by omega) (by omega)]
  by_cases e2 : left - who.size - what.size < 0
  · exact ⟨_, by rw [if_pos e2], by omega, by omega⟩
  rw [if_neg e2, szByteS_eq, w64 (by omega) (by omega)]
  simp only [Option.bind_some]
  by_cases e3 : left - who.size - what.size - salt.length < 0
  · rw [if_pos e3]; exact ⟨_, rfl, by omega, by omega⟩
  rw [if_neg e3, if_neg e3, szByteS_eq, w64 (by omega) (by omega)]
  simp only [Option.bind_some]
  by_cases e4 : left - who.size - what.size - salt.length - cover.length < 0
  · rw [if_pos e4]; exact ⟨_, rfl, by omega, by omega⟩
  rw [if_neg e4, if_neg e4]; exact ⟨_, rfl, by omega, by omega⟩
theorem rd24_nat {l : List S24} {i : Nat} (h : i < l.length) : rd_T24 l (i : Int) = l[i] := by simp [rd_T24, List.getD_eq_getElem?_getD, List.getElem?_eq_getElem h]
theorem szS_l0 (l : List S24) (hok : ∀ e ∈ l, okX e) (hlen : l.length ≤ 1048576) (d : Nat) : ∀ (i : Nat) (left : Int), i + d = l.length → 0 ≤ left → left ≤ 1048576 → ∃ r : Int, Ev (fun k => laws_szLogEntryS.l0 k l left (i : Int)) r ∧ (¬ r < 0 → ∀ j (h : j < l.length), i ≤ j → smallX l[j]) := by
  induction d with
  | zero =>
    intro i left hi h0 h1
    refine ⟨left, Ev.upL ?_, fun _ j hj hij => by omega⟩
    simp only [laws_szLogEntryS.l0, if_neg (show ¬ ((i : Int) < (l.length : Int)) by omega)]
    exact Ev.now _
  | succ d ih =>
    intro i left hi h0 h1
    have hlt : i < l.length := by omega
    obtain ⟨k1, k2, k3, k4⟩ := hok _ (List.getElem_mem hlt)
    obtain ⟨r1, e1, hr1, hs1⟩ := szLogEntry_gen l[i].f0 l[i].f1 l[i].f2 l[i].f3 l[i].f4 k1 k2 k3 k4 left h0 h1
    have ew : wrap64 ((i : Int) + 1) = ((i + 1 : Nat) : Int) := by rw [w64 (by omega) (by omega)]; rfl
    by_cases hneg : r1 < 0
    · refine ⟨-1, Ev.upL ?_, fun h => by omega⟩
      simp only [laws_szLogEntryS.l0, if_pos (show (i : Int) < (l.length : Int) by omega), if_pos (Int.natCast_nonneg i), rd24_nat hlt, e1, Option.bind_some, if_pos hneg]
      exact Ev.now _
    · obtain ⟨r, er, hr⟩ := ih (i + 1) r1 (by omega) (by omega) hr1
      refine ⟨r, Ev.upL ?_, fun hn j hj hij => ?_⟩
      · simp only [laws_szLogEntryS.l0, if_pos (show (i : Int) < (l.length : Int) by omega), if_pos (Int.natCast_nonneg i), rd24_nat hlt, e1, Option.bind_some, if_neg hneg, ew]
        exact er
      · by_cases hji : j = i
        · subst hji; exact hs1 hneg
        · exact hr hn j hj (by omega)
theorem szS_ev (l : List S24) (hok : ∀ e ∈ l, okX e) (hmax : l.length ≤ 9223372036854775807) : ∃ r : Int, Ev (fun k => laws_szLogEntryS.f k l 1048576) r ∧ (¬ r < 0 → l.length ≤ 1048576 ∧ ∀ e ∈ l, smallX e) := by
  by_cases h : l.length ≤ 1048576
  · have ew : wrap64 (1048576 - (l.length : Int)) = 1048576 - (l.length : Int) := w64 (by omega) (by omega)
    obtain ⟨r, er, hr⟩ := szS_l0 l hok h l.length 0 (1048576 - (l.length : Int)) (by omega) (by omega) (by omega)
    refine ⟨r, ?_, fun hn => ⟨h, fun e he => ?_⟩⟩
    · simp only [laws_szLogEntryS.f, ew, if_neg (show ¬ (1048576 : Int) - (l.length : Int) < 0 by omega)]
      exact er
    · obtain ⟨j, hj, rfl⟩ := List.getElem_of_mem he
      exact hr hn j hj (by omega)
  · have ew : wrap64 (1048576 - (l.length : Int)) = 1048576 - (l.length : Int) := w64 (by omega) (by omega)
    refine ⟨-1, ?_, fun hn => by omega⟩
    simp only [laws_szLogEntryS.f, ew, if_pos (show (1048576 : Int) - (l.length : Int) < 0 by omega)]
    exact Ev.now _
theorem set_mid {α : Type} (A : List α) (z v : α) (m i : Nat) (h : A.length = i) : (A ++ List.replicate (m + 1) z).set i v = (A ++ [v]) ++ List.replicate m z := by
  subst h
  rw [List.set_append_right _ _ (Nat.le_refl _), Nat.sub_self, List.replicate_succ, List.set_cons_zero, List.append_assoc]
  rfl
theorem toS_l0 (l : List S24) (hs : ∀ e ∈ l, smallX e) (hlen : l.length ≤ 1048576) (d : Nat) : ∀ i, i + d = l.length → Ev (fun k => laws_toLogEntryS.l0 k l ((l.take i).map toL ++ List.replicate d z27) (i : Int)) (l.map toL) := by
  induction d with
  | zero =>
    intro i hi
    refine Ev.upL ?_
    simp only [laws_toLogEntryS.l0, if_neg (show ¬ ((i : Int) < (l.length : Int)) by omega)]
    rw [show i = l.length by omega, List.take_length, List.replicate_zero, List.append_nil]
    exact Ev.now _
  | succ d ih =>
    intro i hi
    have hlt : i < l.length := by omega
    have hs1 := hs _ (List.getElem_mem hlt)
    have ew : wrap64 ((i : Int) + 1) = ((i + 1 : Nat) : Int) := by rw [w64 (by omega) (by omega)]; rfl
    have hlA : ((l.take i).map toL).length = i := by rw [List.length_map, List.length_take]; omega
    have hl3 : ((l.take i).map toL ++ List.replicate (d + 1) z27).length = l.length := by rw [List.length_append, hlA, List.length_replicate]; omega
    refine Ev.upL ?_
    simp only [laws_toLogEntryS.l0, if_pos (show (i : Int) < (l.length : Int) by omega), if_pos (Int.natCast_nonneg i), rd24_nat hlt, hl3, ew]
    refine Ev.bind (toLogEntry_ev l[i].f0 l[i].f1 l[i].f2 l[i].f3 l[i].f4 hs1.1 hs1.2) ?_
    simp only [Int.toNat_natCast]
    rw [set_mid _ _ _ _ _ hlA]
    have hn := ih (i + 1) (by omega)
    rw [List.take_succ_eq_append_getElem hlt, List.map_append, List.map_singleton] at hn
    exact hn
theorem toS_ev (l : List S24) (hs : ∀ e ∈ l, smallX e) (hlen : l.length ≤ 1048576) : Ev (fun k => laws_toLogEntryS.f k l) (l.map toL) := by
  simp only [laws_toLogEntryS.f, if_pos (Int.natCast_nonneg l.length), Int.toNat_natCast, if_pos (show l.length ≤ 3198579280802 by omega)]
  have := toS_l0 l hs hlen l.length 0 (by omega)
  rw [List.take_zero, List.map_nil, List.nil_append] at this
  exact this
theorem rd27_nat {l : List S27} {i : Nat} (h : i < l.length) : rd_T27 l (i : Int) = l[i] := by simp [rd_T27, List.getD_eq_getElem?_getD, List.getElem?_eq_getElem h]
theorem eqS_l0 (l : List S27) (hs : ∀ e ∈ l, e.f3.length ≤ 1048576 ∧ e.f4.length ≤ 1048576) (hlen : l.length ≤ 1048576) (d : Nat) : ∀ i, i + d = l.length → Ev (fun k => laws_eqLogEntryS.l0 k l l (i : Int)) true := by
  induction d with
  | zero =>
    intro i hi
    refine Ev.upL ?_
    simp only [laws_eqLogEntryS.l0, if_neg (show ¬ ((i : Int) < (l.length : Int)) by omega)]
    exact Ev.now _
  | succ d ih =>
    intro i hi
    have hlt : i < l.length := by omega
    have hs1 := hs _ (List.getElem_mem hlt)
    have ew : wrap64 ((i : Int) + 1) = ((i + 1 : Nat) : Int) := by rw [w64 (by omega) (by omega)]; rfl
    refine Ev.upL ?_
    simp only [laws_eqLogEntryS.l0, if_pos (show (i : Int) < (l.length : Int) by omega), if_pos (Int.natCast_nonneg i), rd27_nat hlt, ew]
    refine Ev.bind (eqLogEntry_refl l[i].f0 l[i].f1 l[i].f2 l[i].f3 l[i].f4 hs1.1 hs1.2) ?_
    simp only [if_true]
    exact ih (i + 1) (by omega)
theorem eqS_refl (l : List S24) (hs : ∀ e ∈ l, smallX e) (hlen : l.length ≤ 1048576) : Ev (fun k => laws_eqLogEntryS.f k (l.map toL) (l.map toL)) true := by
  simp only [laws_eqLogEntryS.f, if_true]
  refine eqS_l0 (l.map toL) (fun e he => ?_) (by rw [List.length_map]; exact hlen) (l.map toL).length 0 (by omega)
  obtain ⟨x, hx, rfl⟩ := List.mem_map.1 he
  exact hs x hx
def pwm (b : Int) (e : Nat) : Int := b ^ e % 2147483579
theorem pwm_range (b : Int) (e : Nat) : 0 ≤ pwm b e ∧ pwm b e < 2147483579 := ⟨Int.emod_nonneg _ (by omega), Int.emod_lt_of_pos _ (by omega)⟩
theorem pow_emod' (a m : Int) (n : Nat) : (a % m) ^ n % m = a ^ n % m := by
  induction n with
  | zero => simp
  | succ n ih => rw [Int.pow_succ, Int.pow_succ, Int.mul_emod, ih, Int.emod_emod, ← Int.mul_emod]
theorem pow_double (x : Int) (h : Nat) : x ^ (2 * h) = (x * x) ^ h := by
  induction h with
  | zero => simp
  | succ h ih => rw [show 2 * (h + 1) = 2 * h + 1 + 1 by omega, Int.pow_succ, Int.pow_succ, ih, Int.pow_succ, Int.mul_assoc]
theorem mulP {a b : Int} (ha : 0 ≤ a) (ha2 : a < 2147483579) (hb : 0 ≤ b) (hb2 : b < 2147483579) : 0 ≤ a * b ∧ a * b ≤ 4611685717779682084 := by
  refine ⟨Int.mul_nonneg ha hb, ?_⟩
  have := Int.mul_le_mul (show a ≤ 2147483578 by omega) (show b ≤ 2147483578 by omega) hb (by omega)
  omega
theorem mulM {a b : Int} (ha : 0 ≤ a) (ha2 : a < 2147483579) (hb : 0 ≤ b) (hb2 : b < 2147483579) : Int.tmod (wrap64 (a * b)) 2147483579 = a * b % 2147483579 := by
  have := mulP ha ha2 hb hb2
  rw [w64 (by omega) (by omega), Int.tmod_eq_emod_of_nonneg this.1]
theorem and1 (e : Nat) (he : e < 9223372036854775808) : Go.bits .and .i64 (e : Int) 1 = ((e % 2 : Nat) : Int) := by
  have h1 : (BitVec.ofInt 64 (e : Int)).toNat = e := by
    rw [BitVec.ofInt_natCast, BitVec.toNat_ofNat]; exact Nat.mod_eq_of_lt (by omega)
  have h : ((BitVec.ofInt 64 (e : Int)) &&& (BitVec.ofInt 64 1)).toNat = e % 2 := by
    rw [BitVec.toNat_and, h1]
    exact Nat.and_one_is_mod e
  have e0 : Go.bits .and .i64 (e : Int) 1 = IntKind.i64.wrap ((((BitVec.ofInt 64 (e : Int)) &&& (BitVec.ofInt 64 1)).toNat : Nat) : Int) := rfl
  rw [e0, h]
  exact IntWalk.i64_in _ (by omega)
theorem ypow_l0 : ∀ (f k e : Nat) (x0 x7 : Int), 0 ≤ x0 → x0 < 2147483579 → 0 ≤ x7 → x7 < 2147483579 → e < 2 ^ f → f ≤ 60 → f < k → impl_ypow.l0 k x0 e 2147483579 x7 = some (x7 * x0 ^ e % 2147483579) := by
  intro f
  induction f with
  | zero =>
    intro k e x0 x7 h0 h1 h2 h3 he hf hk
    obtain ⟨k, rfl⟩ : ∃ m, k = m + 1 := ⟨k - 1, by omega⟩
    obtain rfl : e = 0 := by simpa using he
    simp only [impl_ypow.l0, if_neg (show ¬ (((0 : Nat) : Int) > 0) by omega)]
    rw [Int.pow_zero, Int.mul_one, Int.emod_eq_of_lt h2 h3]
  | succ f ih =>
    intro k e x0 x7 h0 h1 h2 h3 he hf hk
    obtain ⟨k, rfl⟩ : ∃ m, k = m + 1 := ⟨k - 1, by omega⟩
    by_cases hz : e = 0
    · subst hz
      simp only [impl_ypow.l0, if_neg (show ¬ (((0 : Nat) : Int) > 0) by omega)]
      rw [Int.pow_zero, Int.mul_one, Int.emod_eq_of_lt h2 h3]
    · have hlim : e < 9223372036854775808 := Nat.lt_of_lt_of_le he (Nat.le_trans (Nat.pow_le_pow_right (by omega) (show f + 1 ≤ 61 by omega)) (by decide))
      have hdiv : ((e : Int) / 2) = ((e / 2 : Nat) : Int) := by omega
      have hhalf : e / 2 < 2 ^ f := by rw [Nat.pow_succ] at he; omega
      have s0 : 0 ≤ x0 * x0 % 2147483579 := Int.emod_nonneg _ (by omega)
      have s1 : x0 * x0 % 2147483579 < 2147483579 := Int.emod_lt_of_pos _ (by omega)
      have t0 : 0 ≤ x7 * x0 % 2147483579 := Int.emod_nonneg _ (by omega)
      have t1 : x7 * x0 % 2147483579 < 2147483579 := Int.emod_lt_of_pos _ (by omega)
      simp only [impl_ypow.l0, if_pos (show ((e : Int) > 0) by omega), and1 e hlim, if_neg (show ¬ ((2147483579 : Int) = 0) by omega), mulM h0 h1 h0 h1, mulM h2 h3 h0 h1, hdiv]
      by_cases ho : e % 2 = 1
      · rw [if_pos (by omega), ih k (e / 2) _ _ s0 s1 t0 t1 hhalf (by omega) (by omega)]
        congr 1
        rw [Int.mul_emod, pow_emod', Int.emod_emod, ← Int.mul_emod, ← pow_double]
        conv => rhs; rw [show e = 2 * (e / 2) + 1 by omega, Int.pow_succ]
        congr 1
        ac_rfl
      · rw [if_neg (by omega), ih k (e / 2) _ _ s0 s1 h2 h3 hhalf (by omega) (by omega)]
        congr 1
        rw [Int.mul_emod, pow_emod', ← Int.mul_emod, ← pow_double]
        conv => rhs; rw [show e = 2 * (e / 2) by omega]
theorem ypow_eq (b : Int) (e : Nat) (h0 : 0 ≤ b) (h1 : b < 2147483579) (he : e < 2199023255552) (k : Nat) (hk : 50 ≤ k) : impl_ypow.f k b e 2147483579 = some (pwm b e) := by
  unfold impl_ypow.f
  rw [if_neg (by omega), Int.tmod_eq_emod_of_nonneg h0, Int.emod_eq_of_lt h0 h1, ypow_l0 41 k e b 1 h0 h1 (by omega) (by omega) (by simpa using he) (by omega) (by omega), Int.one_mul]
  rfl
theorem shr_nat (e n : Nat) (hn : n ≤ 64) : shr .i64 (e : Int) (n : Int) = ((e / 2 ^ n : Nat) : Int) := by
  unfold shr
  rw [Int.toNat_natCast, Nat.min_eq_left (show n ≤ IntKind.i64.bits from hn)]
  simp
theorem l2Power_l0 (e : Nat) (he : e < 2199023255552) (x0 : Int) (h0 : 0 ≤ x0) (h1 : x0 < 2147483579) : ∀ (n k : Nat) (x7 : Int), n ≤ 41 → x7 = x0 ^ (e / 2 ^ n) % 2147483579 → n < k → spec_l2Power.l0 k x0 e 2147483579 x7 ((n : Int) - 1) = some (x0 ^ e % 2147483579) := by
  intro n
  induction n with
  | zero =>
    intro k x7 hn hx hk
    obtain ⟨k, rfl⟩ : ∃ m, k = m + 1 := ⟨k - 1, by omega⟩
    simp only [spec_l2Power.l0, if_neg (show ¬ (((0 : Nat) : Int) - 1 ≥ 0) by omega)]
    rw [hx, Nat.pow_zero, Nat.div_one]
  | succ n ih =>
    intro k x7 hn hx hk
    obtain ⟨k, rfl⟩ : ∃ m, k = m + 1 := ⟨k - 1, by omega⟩
    have en : (((n + 1 : Nat) : Int) - 1) = (n : Int) := by omega
    have ew : IntKind.u64.wrap (n : Int) = (n : Int) := by rw [IntKind.wrap_u64]; omega
    have em : wrap64 ((n : Int) - 1) = (n : Int) - 1 := w64 (by omega) (by omega)
    have hq : e / 2 ^ n < 9223372036854775808 := Nat.lt_of_le_of_lt (Nat.div_le_self _ _) (by omega)
    have hh : e / 2 ^ (n + 1) = (e / 2 ^ n) / 2 := by rw [Nat.pow_succ, Nat.div_div_eq_div_mul]
    have x0' : 0 ≤ x7 := by rw [hx]; exact Int.emod_nonneg _ (by omega)
    have x1' : x7 < 2147483579 := by rw [hx]; exact Int.emod_lt_of_pos _ (by omega)
    have s0 : 0 ≤ x7 * x7 % 2147483579 := Int.emod_nonneg _ (by omega)
    have s1 : x7 * x7 % 2147483579 < 2147483579 := Int.emod_lt_of_pos _ (by omega)
    have hsq : x7 * x7 % 2147483579 = x0 ^ (2 * ((e / 2 ^ n) / 2)) % 2147483579 := by
      rw [hx, hh, ← Int.mul_emod, Nat.two_mul, Int.pow_add]
    simp only [spec_l2Power.l0, en, if_pos (show ((n : Int) ≥ 0) by omega), if_neg (show ¬ ((2147483579 : Int) = 0) by omega), ew, shr_nat e n (by omega), and1 _ hq, mulM x0' x1' x0' x1', mulM s0 s1 h0 h1, em]
    by_cases ho : (e / 2 ^ n) % 2 = 1
    · rw [if_pos (by omega)]
      refine ih k _ (by omega) ?_ (by omega)
      rw [hsq, Int.mul_emod, Int.emod_emod, ← Int.mul_emod, ← Int.pow_succ, Nat.succ_eq_add_one, show 2 * (e / 2 ^ n / 2) + 1 = e / 2 ^ n by omega]
    · rw [if_neg (by omega)]
      refine ih k _ (by omega) ?_ (by omega)
      rw [hsq, show 2 * (e / 2 ^ n / 2) = e / 2 ^ n by omega]
theorem l2Power_eq (b : Int) (e : Nat) (h0 : 0 ≤ b) (h1 : b < 2147483579) (he : e < 2199023255552) (k : Nat) (hk : 50 ≤ k) : spec_l2Power.f k b e 2147483579 = some (pwm b e) := by
  unfold spec_l2Power.f
  exact l2Power_l0 e he b h0 h1 41 k 1 (by omega) (by rw [Nat.div_eq_of_lt (by simpa using he), Int.pow_zero]; rfl) (by omega)
attribute [irreducible] pwm
def numL (l : List Int) : Int := rd l 0 + 256 * rd l 1 + 65536 * rd l 2 + 16777216 * rd l 3
theorem or_nat (a b : Nat) (ha : a < 4611686018427387904) (hb : b < 4611686018427387904) : Go.bits .or .i64 (a : Int) (b : Int) = ((a ||| b : Nat) : Int) := by
  have h1 : (BitVec.ofInt 64 (a : Int)).toNat = a := by
    rw [BitVec.ofInt_natCast, BitVec.toNat_ofNat]; exact Nat.mod_eq_of_lt (by omega)
  have h2 : (BitVec.ofInt 64 (b : Int)).toNat = b := by
    rw [BitVec.ofInt_natCast, BitVec.toNat_ofNat]; exact Nat.mod_eq_of_lt (by omega)
  have h3 : a ||| b < 2 ^ 62 := Nat.or_lt_two_pow (by simpa using ha) (by simpa using hb)
  have e0 : Go.bits .or .i64 (a : Int) (b : Int) = IntKind.i64.wrap ((((BitVec.ofInt 64 (a : Int)) ||| (BitVec.ofInt 64 (b : Int))).toNat : Nat) : Int) := rfl
  rw [e0, BitVec.toNat_or, h1, h2]
  exact IntWalk.i64_in _ (by omega)
theorem or_add (i : Nat) (a b : Int) (ha0 : 0 ≤ a) (ha : a < (2 ^ i : Nat)) (hb0 : 0 ≤ b) (hb : b < 4294967296) (hi : i ≤ 24) : Go.bits .or .i64 a (b * (2 ^ i : Nat)) = a + b * (2 ^ i : Nat) := by
  obtain ⟨a, rfl⟩ : ∃ n : Nat, a = n := ⟨a.toNat, by omega⟩
  obtain ⟨b, rfl⟩ : ∃ n : Nat, b = n := ⟨b.toNat, by omega⟩
  have hp : 2 ^ i ≤ 16777216 := Nat.le_trans (Nat.pow_le_pow_right (by omega) hi) (by decide)
  have hb' : b * 2 ^ i < 4611686018427387904 := by
    have : b * 2 ^ i ≤ 4294967296 * 16777216 := Nat.mul_le_mul (by omega) hp
    omega
  rw [← Int.natCast_mul, or_nat a (b * 2 ^ i) (by omega) hb', Nat.or_comm, Nat.mul_comm, ← Nat.two_pow_add_eq_or_of_lt (show a < 2 ^ i by omega)]
  rw [Nat.mul_comm, Int.natCast_add, Int.natCast_mul]
  omega
theorem rd_byte {l : List Int} (h : isBytes l) {i : Nat} (hi : i < l.length) : 0 ≤ rd l i ∧ rd l i ≤ 255 := by
  refine h _ ?_
  rw [rd_nat hi]
  exact List.getElem_mem hi
theorem implNum_eq (l : List Int) (h : isBytes l) (hl : 4 ≤ l.length) : impl_ynumber.f l = some (numL l) := by
  have b0 := rd_byte h (i := 0) (by omega)
  have b1 := rd_byte h (i := 1) (by omega)
  have b2 := rd_byte h (i := 2) (by omega)
  have b3 := rd_byte h (i := 3) (by omega)
  simp only [Int.cast_ofNat_Int] at b0 b1 b2 b3
  unfold impl_ynumber.f
  rw [if_neg (by omega), if_pos (by omega), if_pos (by omega), if_pos (by omega), if_pos (by omega), w64 (n := rd l 0) (by omega) (by omega), w64 (n := rd l 1) (by omega) (by omega), w64 (n := rd l 2) (by omega) (by omega), w64 (n := rd l 3) (by omega) (by omega), w64 (n := rd l 1 * 256) (by omega) (by omega), w64 (n := rd l 2 * 65536) (by omega) (by omega), w64 (n := rd l 3 * 16777216) (by omega) (by omega)]
  have e1 := or_add 8 (rd l 0) (rd l 1) (by omega) (by simp; omega) (by omega) (by omega) (by omega)
  have e2 := or_add 16 (rd l 0 + rd l 1 * 256) (rd l 2) (by omega) (by simp; omega) (by omega) (by omega) (by omega)
  have e3 := or_add 24 (rd l 0 + rd l 1 * 256 + rd l 2 * 65536) (rd l 3) (by omega) (by simp; omega) (by omega) (by omega) (by omega)
  simp only [show ((2 ^ 8 : Nat) : Int) = 256 from rfl, show ((2 ^ 16 : Nat) : Int) = 65536 from rfl, show ((2 ^ 24 : Nat) : Int) = 16777216 from rfl] at e1 e2 e3
  rw [e1, e2, e3]
  simp only [numL, Option.some.injEq]
  omega
theorem specNum_eq (l : List Int) (h : isBytes l) (hl : 4 ≤ l.length) (k : Nat) (hk : 5 ≤ k) : spec_l2Number.f k l = some (numL l) := by
  have b0 := rd_byte h (i := 0) (by omega)
  have b1 := rd_byte h (i := 1) (by omega)
  have b2 := rd_byte h (i := 2) (by omega)
  have b3 := rd_byte h (i := 3) (by omega)
  simp only [Int.cast_ofNat_Int] at b0 b1 b2 b3
  obtain ⟨k, rfl⟩ : ∃ m, k = m + 5 := ⟨k - 5, by omega⟩
  unfold spec_l2Number.f
  rw [spec_l2Number.l0, if_pos (by omega), if_pos (by omega), if_pos (by omega), show wrap64 ((3 : Int) - 1) = 2 from (w64 (by omega) (by omega)).trans (by omega), w64 (n := (0 : Int) * 256) (by omega) (by omega), w64 (n := rd l 3) (by omega) (by omega), w64 (n := (0 : Int) * 256 + rd l 3) (by omega) (by omega)]
  rw [spec_l2Number.l0, if_pos (by omega), if_pos (by omega), if_pos (by omega), show wrap64 ((2 : Int) - 1) = 1 from (w64 (by omega) (by omega)).trans (by omega), w64 (n := rd l 2) (by omega) (by omega), w64 (n := ((0 : Int) * 256 + rd l 3) * 256) (by omega) (by omega), w64 (n := ((0 : Int) * 256 + rd l 3) * 256 + rd l 2) (by omega) (by omega)]
  rw [spec_l2Number.l0, if_pos (by omega), if_pos (by omega), if_pos (by omega), show wrap64 ((1 : Int) - 1) = 0 from (w64 (by omega) (by omega)).trans (by omega), w64 (n := rd l 1) (by omega) (by omega), w64 (n := (((0 : Int) * 256 + rd l 3) * 256 + rd l 2) * 256) (by omega) (by omega), w64 (n := (((0 : Int) * 256 + rd l 3) * 256 + rd l 2) * 256 + rd l 1) (by omega) (by omega)]
  rw [spec_l2Number.l0, if_pos (by omega), if_pos (by omega), if_pos (by omega), show wrap64 ((0 : Int) - 1) = -1 from (w64 (by omega) (by omega)).trans (by omega), w64 (n := rd l 0) (by omega) (by omega), w64 (n := ((((0 : Int) * 256 + rd l 3) * 256 + rd l 2) * 256 + rd l 1) * 256) (by omega) (by omega), w64 (n := ((((0 : Int) * 256 + rd l 3) * 256 + rd l 2) * 256 + rd l 1) * 256 + rd l 0) (by omega) (by omega)]
  rw [spec_l2Number.l0, if_neg (by omega)]
  simp only [numL, Option.some.injEq]
  omega
theorem numL_range (l : List Int) (h : isBytes l) (hl : 4 ≤ l.length) : 0 ≤ numL l ∧ numL l ≤ 4294967295 := by
  have b0 := rd_byte h (i := 0) (by omega)
  have b1 := rd_byte h (i := 1) (by omega)
  have b2 := rd_byte h (i := 2) (by omega)
  have b3 := rd_byte h (i := 3) (by omega)
  simp only [Int.cast_ofNat_Int] at b0 b1 b2 b3
  unfold numL
  omega
def chalL (r : Int) (d : List Int) : Int := numL (dg (yb r ++ dg d)) % 1073741789
theorem chalL_range (r : Int) (d : List Int) : 0 ≤ chalL r d ∧ chalL r d < 1073741789 := ⟨Int.emod_nonneg _ (by omega), Int.emod_lt_of_pos _ (by omega)⟩
theorem implChal_eq (r : Int) (d : List Int) (hd : isBytes d) (hl : d.length ≤ 20000) : impl_ychallenge.f r d = some (chalL r d) := by
  have y1 : impl_ybytes.f r = some (yb r) := rfl
  have h1 := dg_len d
  have h2 := dg_len (yb r ++ dg d)
  have h3 := numL_range (dg (yb r ++ dg d)) (dg_bytes _) (by omega)
  unfold impl_ychallenge.f
  rw [y1, Option.bind_some, implDigest_eq d hd hl, Option.bind_some, if_pos (by rw [h1, yb_len]; omega), implDigest_eq _ (isBytes_append (yb_bytes _) (dg_bytes _)) (by rw [List.length_append, h1, yb_len]; omega), Option.bind_some, implNum_eq _ (dg_bytes _) (by omega), Option.bind_some, Int.tmod_eq_emod_of_nonneg h3.1]
  rfl
theorem specChal_ev (r : Int) (d : List Int) (hr0 : 0 ≤ r) (hr : r ≤ 9223372036854775807) (hd : isBytes d) (hl : d.length ≤ 20000) : Ev (fun k => spec_l2E.f k r d) (chalL r d) := by
  have h1 := dg_len d
  have h2 := dg_len (yb r ++ dg d)
  have h3 := numL_range (dg (yb r ++ dg d)) (dg_bytes _) (by omega)
  simp only [spec_l2E.f]
  refine Ev.bind ⟨5, fun k hk => specBytes_eq r hr0 hr k hk⟩ ?_
  simp only [if_pos (show ([] : List Int).length + (yb r).length < 140737488355328 by rw [yb_len]; simp), List.nil_append, Option.bind_some]
  refine Ev.bind (specDigest_ev d hd (by omega)) ?_
  simp only [if_pos (show (yb r).length + (dg d).length < 140737488355328 by rw [yb_len, h1]; omega)]
  refine Ev.bind (specDigest_ev _ (isBytes_append (yb_bytes _) (dg_bytes _)) (by rw [List.length_append, h1, yb_len]; omega)) ?_
  refine Ev.bind ⟨5, fun k hk => specNum_eq _ (dg_bytes _) (by omega) k hk⟩ ?_
  simp only [Int.tmod_eq_emod_of_nonneg h3.1]
  exact Ev.now _
def pubOk (p : Int) : Prop := 2 ≤ p ∧ p < 2147483579 ∧ pwm p 1073741789 = 1
instance (p : Int) : Decidable (pubOk p) := by unfold pubOk; infer_instance
def verOk (p : Int) (d : List Int) (r s : Int) : Prop := pubOk p ∧ d.length ≤ 20000 ∧ 1 ≤ r ∧ r < 2147483579 ∧ 0 ≤ s ∧ s < 1073741789
instance (p : Int) (d : List Int) (r s : Int) : Decidable (verOk p d r s) := by unfold verOk; infer_instance
theorem ypow_at (b e : Int) (h0 : 0 ≤ b) (h1 : b < 2147483579) (he0 : 0 ≤ e) (he : e < 2199023255552) (k : Nat) (hk : 50 ≤ k) : impl_ypow.f k b e 2147483579 = some (pwm b e.toNat) := by
  have := ypow_eq b e.toNat h0 h1 (by omega) k hk
  rwa [Int.toNat_of_nonneg he0] at this
theorem l2Power_at (b e : Int) (h0 : 0 ≤ b) (h1 : b < 2147483579) (he0 : 0 ≤ e) (he : e < 2199023255552) (k : Nat) (hk : 50 ≤ k) : spec_l2Power.f k b e 2147483579 = some (pwm b e.toNat) := by
  have := l2Power_eq b e.toNat h0 h1 (by omega) k hk
  rwa [Int.toNat_of_nonneg he0] at this
theorem Ev.up1 {α : Type} {g : Nat → Option α} {r : α} (h : Ev (fun k => g (k + 1)) r) : Ev g r := by
  obtain ⟨n, hn⟩ := h
  refine ⟨n + 1, fun k hk => ?_⟩
  obtain ⟨k, rfl⟩ : ∃ m, k = m + 1 := ⟨k - 1, by omega⟩
  exact hn k (by omega)
theorem two_ev (a b : List Int) (ha : isBytes a) (hb : isBytes b) (la : a.length ≤ 100000000) (lb : b.length ≤ 100000000) : Ev (fun k => spec_l2Two.f k a b) (dg (a ++ b)) := by
  have hab := specDigest_ev (a ++ b) (isBytes_append ha hb) (by rw [List.length_append]; omega)
  simp only [spec_l2Two.f, List.length_nil, if_pos (show 0 + a.length < 140737488355328 by omega), List.nil_append, Option.bind_some, if_pos (show a.length + b.length < 140737488355328 by omega)]
  exact Ev.bind hab (Ev.now _)
theorem smac_ev (a b : List Int) (ha : isBytes a) (hb : isBytes b) (la : a.length ≤ 100000000) (lb : b.length ≤ 100000000) : Ev (fun k => spec_l2Mac.f k a b) (macL a b) := by
  simp only [spec_l2Mac.f]
  refine Ev.bind (specDigest_ev a ha (by omega)) ?_
  refine Ev.bind (specDigest_ev b hb (by omega)) ?_
  exact Ev.bind (two_ev _ _ (dg_bytes a) (dg_bytes b) (by rw [dg_len]; omega) (by rw [dg_len]; omega)) (Ev.now _)
theorem imac_ev (a b : List Int) (ha : isBytes a) (hb : isBytes b) (la : a.length ≤ 20000) (lb : b.length ≤ 20000) : Ev (fun k => impl_Mac.f k a b) (macL a b) := by
  refine Ev.up1 ?_
  simp only [impl_Mac.f, if_neg (show ¬ ((a.length : Int) > 20000) by omega), decide_eq_false (show ¬ ((b.length : Int) > 20000) by omega), impl_Mac.j0, Bool.false_eq_true, if_false, implDigest_eq a ha la, implDigest_eq b hb lb, Option.bind_some, if_pos (show (dg a).length + (dg b).length < 140737488355328 by rw [dg_len, dg_len]; omega), implDigest_eq _ (isBytes_append (dg_bytes a) (dg_bytes b)) (show (dg a ++ dg b).length ≤ 20000 by rw [List.length_append, dg_len, dg_len]; omega)]
  exact Ev.now _
theorem macL_bytes (a b : List Int) : isBytes (macL a b) := dg_bytes _
theorem macL_len (a b : List Int) : (macL a b).length = 16 := dg_len _
def signN (x : Int) (d : List Int) : Int := 1 + numL (macL (yb x) d) % 1073741788
theorem signN_range (x : Int) (d : List Int) : 1 ≤ signN x d ∧ signN x d < 1073741789 := by
  have h0 := Int.emod_nonneg (numL (macL (yb x) d)) (show (1073741788 : Int) ≠ 0 by omega)
  have h1 := Int.emod_lt_of_pos (numL (macL (yb x) d)) (show (0 : Int) < 1073741788 by omega)
  unfold signN
  omega
def signL (x : Int) (d : List Int) : Int × Int := (pwm 4 (signN x d).toNat, (signN x d + chalL (pwm 4 (signN x d).toNat) d * x) % 1073741789)
theorem chal_mul {e x : Int} (h0 : 0 ≤ e) (h1 : e < 1073741789) (h2 : 0 ≤ x) (h3 : x < 1073741789) : 0 ≤ e * x ∧ e * x ≤ 1152921504606846976 := by
  refine ⟨Int.mul_nonneg h0 h2, ?_⟩
  have := Int.mul_le_mul (show e ≤ 1073741788 by omega) (show x ≤ 1073741788 by omega) h2 (by omega)
  omega
theorem num_part (x : Int) (d : List Int) : wrap64 (1 + Int.tmod (numL (macL (yb x) d)) 1073741788) = signN x d := by
  have h3 := numL_range (macL (yb x) d) (macL_bytes _ _) (by rw [macL_len]; omega)
  have hs := signN_range x d
  have e : 1 + Int.tmod (numL (macL (yb x) d)) 1073741788 = signN x d := by rw [Int.tmod_eq_emod_of_nonneg h3.1]; rfl
  rw [e, w64 (by omega) (by omega)]
theorem sig_part {x n e : Int} (hx0 : 0 ≤ x) (hx1 : x < 1073741789) (hn0 : 1 ≤ n) (hn1 : n < 1073741789) (h0 : 0 ≤ e) (h1 : e < 1073741789) : Int.tmod (wrap64 (n + wrap64 (e * x))) 1073741789 = (n + e * x) % 1073741789 := by
  have h := chal_mul h0 h1 hx0 hx1
  rw [w64 (n := e * x) (by omega) (by omega), w64 (by omega) (by omega), Int.tmod_eq_emod_of_nonneg (by omega)]
theorem specSign_ev (x : Int) (d : List Int) (hx0 : 1 ≤ x) (hx1 : x < 1073741789) (hd : isBytes d) (hl : d.length ≤ 20000) : Ev (fun k => spec_l2Sign.f k x d) (signL x d) := by
  have hs := signN_range x d
  have hr := pwm_range 4 (signN x d).toNat
  have hc := chalL_range (pwm 4 (signN x d).toNat) d
  simp only [spec_l2Sign.f]
  refine Ev.bind ⟨5, fun k hk => specBytes_eq x (by omega) (by omega) k hk⟩ ?_
  refine Ev.bind (smac_ev _ d (yb_bytes x) hd (by rw [yb_len]; omega) (by omega)) ?_
  refine Ev.bind ⟨5, fun k hk => specNum_eq _ (macL_bytes _ _) (by rw [macL_len]; omega) k hk⟩ ?_
  simp only [num_part]
  refine Ev.bind ⟨50, fun k hk => l2Power_at 4 (signN x d) (by omega) (by omega) (by omega) (by omega) k hk⟩ ?_
  refine Ev.bind (specChal_ev _ d hr.1 (by omega) hd hl) ?_
  simp only [sig_part (show 0 ≤ x by omega) hx1 hs.1 hs.2 hc.1 hc.2]
  exact Ev.now _
theorem implSign_ev (x : Int) (d : List Int) (hd : isBytes d) (hl : d.length ≤ 20000) : Ev (fun k => impl_Sign.f k x d) (if 1 ≤ x ∧ x < 1073741789 then signL x d else (0, 0)) := by
  refine Ev.up1 ?_
  by_cases hx : 1 ≤ x ∧ x < 1073741789
  · have hx0 := hx.1
    have hx1 := hx.2
    have hs := signN_range x d
    have hr := pwm_range 4 (signN x d).toNat
    have hc := chalL_range (pwm 4 (signN x d).toNat) d
    have y1 : impl_ybytes.f x = some (yb x) := rfl
    have n1 := implNum_eq (macL (yb x) d) (macL_bytes _ _) (by rw [macL_len]; omega)
    have c1 := implChal_eq (pwm 4 (signN x d).toNat) d hd hl
    simp only [if_pos hx, impl_Sign.f, impl_ysecret.f, if_pos (show x ≥ 1 by omega), decide_eq_true hx1, Option.bind_some, if_true, decide_eq_false (show ¬ ((d.length : Int) > 20000) by omega), impl_Sign.j0, Bool.false_eq_true, if_false, y1]
    refine Ev.bind (imac_ev _ d (yb_bytes x) hd (by rw [yb_len]; omega) hl) ?_
    simp only [n1, Option.bind_some, num_part]
    refine Ev.bind ⟨50, fun k hk => ypow_at 4 (signN x d) (by omega) (by omega) (by omega) (by omega) k hk⟩ ?_
    simp only [c1, Option.bind_some, sig_part (show 0 ≤ x by omega) hx1 hs.1 hs.2 hc.1 hc.2]
    exact Ev.now _
  · simp only [if_neg hx, impl_Sign.f, impl_ysecret.f]
    by_cases h1 : x ≥ 1
    · simp only [if_pos h1, Option.bind_some, decide_eq_false (show ¬ x < 1073741789 by omega), Bool.false_eq_true, if_false, impl_Sign.j0, if_true]
      exact Ev.now _
    · simp only [if_neg h1, Option.bind_some, Bool.false_eq_true, if_false, impl_Sign.j0, if_true]
      exact Ev.now _
end Go.Proofs.Ytipdkendfcopiaa.Pr
namespace Go.Proofs.Ytipdkendfcopiaa.Pure
open Go.RowKit Go.Proofs.Ytipdkendfcopiaa.Read Go.Proofs.YtipdkendfcopiaaW.PrintWords Go.Proofs.Ytipdkendfcopiaa.Pr
set_option linter.unusedVariables false
theorem mkTot_bound (l3 l4 : Nat → Nat) (B n : Nat) (h : ∀ i, i < n → l3 i ≤ B ∧ l4 i ≤ B) : mkTot l3 l4 n ≤ n * (3 + 2 * B) := by
  induction n with
  | zero => exact Nat.zero_le _
  | succ n ih =>
    have h1 := ih (fun i hi => h i (by omega))
    have h2 := h n (by omega)
    show mkTot l3 l4 n + 3 + l3 n + l4 n ≤ (n + 1) * (3 + 2 * B)
    rw [Nat.add_mul]
    omega
theorem marks_f (l : List S24) (hs : ∀ e ∈ l, smallX e) (hlen : l.length ≤ 1048576) : ∃ r : Int, laws_markLogEntryS.f (l.map toL) 1 = some r ∧ 0 ≤ r := by
  have hb : markTot (l.map toL) ≤ (l.map toL).length * (3 + 2 * 1048576) := by
    refine mkTot_bound _ _ _ _ (fun i hi => ?_)
    rw [List.length_map] at hi
    rw [rd27_nat (by rw [List.length_map]; exact hi), List.getElem_map]
    exact hs _ (List.getElem_mem hi)
  rw [List.length_map] at hb
  have hb2 : l.length * (3 + 2 * 1048576) ≤ 1048576 * (3 + 2 * 1048576) := Nat.mul_le_mul_right _ hlen
  refine ⟨1 + markTot (l.map toL), ?_, by omega⟩
  unfold laws_markLogEntryS.f
  rw [if_pos ⟨by omega, by omega, by rw [List.length_map]; omega⟩]
theorem toL_ok {l : List S24} (hok : ∀ e ∈ l, okX e) : ∀ e ∈ l.map toL, okR e := by
  intro e he
  obtain ⟨x, hx, rfl⟩ := List.mem_map.1 he
  obtain ⟨h1, h2, h3, h4⟩ := hok x hx
  exact ⟨h1, h2, isBytes_okL h3, isBytes_okL h4⟩
def shL (x : Int) (l : List S27) : Int × List Int × Int × Int :=
  if goodLog l ∧ 1 ≤ x ∧ x < 1073741789 then ((l.length : Int), logRoot l, (signL x (yb (l.length : Int) ++ logRoot l)).1, (signL x (yb (l.length : Int) ++ logRoot l)).2) else (0, [], 0, 0)
theorem logRoot_bytes {l : List S27} (hg : goodLog l) : isBytes (logRoot l) := by
  unfold logRoot
  rw [if_pos hg]
  exact (root_ok (by rw [List.length_map]; exact hg.1) (sixt_leaves l)).1
theorem secret_dec (x : Int) : (if x ≥ 1 then some (decide (x < 1073741789)) else some false) = some (decide (1 ≤ x ∧ x < 1073741789)) := by
  by_cases h : x ≥ 1
  · rw [if_pos h]
    by_cases h2 : x < 1073741789
    · rw [decide_eq_true h2, decide_eq_true (show 1 ≤ x ∧ x < 1073741789 from ⟨h, h2⟩)]
    · rw [decide_eq_false h2, decide_eq_false (show ¬ (1 ≤ x ∧ x < 1073741789) from fun h3 => h2 h3.2)]
  · rw [if_neg h, decide_eq_false (show ¬ (1 ≤ x ∧ x < 1073741789) from fun h3 => h h3.1)]
theorem specSignHead_ev (x : Int) (l : List S27) (hok : ∀ e ∈ l, okR e) : Ev (fun k => spec_SignHead.f k x l) (shL x l) := by
  simp only [spec_SignHead.f]
  refine Ev.bind (specLeaves_ev l hok) ?_
  by_cases hg : goodLog l
  case neg =>
    rw [show leavesL l = ([], false) from if_neg hg, show shL x l = (0, [], 0, 0) from if_neg (fun h => hg h.1)]
    simp only [Bool.false_eq_true, if_false]
    exact Ev.up1 (by simp only [spec_SignHead.j0, if_true]; exact Ev.now _)
  rw [show leavesL l = (l.map leafS, true) from if_pos hg]
  simp only [if_true, spec_l2Secret.f, secret_dec, Option.bind_some]
  refine Ev.up1 ?_
  by_cases hx : 1 ≤ x ∧ x < 1073741789
  case neg =>
    rw [show shL x l = (0, [], 0, 0) from if_neg (fun h => hx h.2)]
    simp only [spec_SignHead.j0, decide_eq_false hx, Bool.not_false, if_true]
    exact Ev.now _
  rw [show shL x l = ((l.length : Int), logRoot l, (signL x (yb (l.length : Int) ++ logRoot l)).1, (signL x (yb (l.length : Int) ++ logRoot l)).2) from if_pos ⟨hg, hx⟩]
  simp only [spec_SignHead.j0, decide_eq_true hx, Bool.not_true, Bool.false_eq_true, if_false, List.length_map]
  have hr : Ev (fun k => spec_l21Root.f k (l.map leafS)) (logRoot l) := by
    unfold logRoot
    rw [if_pos hg]
    exact specRoot_aux _ (l.map leafS) (Nat.le_refl _) (by rw [List.length_map]; exact hg.1) (sixt_leaves l)
  have hlen := logRoot_len hg
  have hby := logRoot_bytes hg
  have h200 := hg.1
  generalize logRoot l = R at hr hlen hby
  refine Ev.bind hr ?_
  have e1 : Ev (fun k => spec_l21Signed.f k (l.length : Int) R 0 0) (yb (l.length : Int) ++ R) := by
    simp only [spec_l21Signed.f]
    refine Ev.bind ⟨5, fun k hk => specBytes_eq (l.length : Int) (by omega) (by omega) k hk⟩ ?_
    simp only [if_pos (show (yb (l.length : Int)).length + R.length < 140737488355328 by rw [yb_len]; omega)]
    exact Ev.now _
  refine Ev.bind e1 ?_
  exact Ev.bind (specSign_ev x _ hx.1 hx.2 (isBytes_append (yb_bytes _) hby) (by rw [List.length_append, yb_len]; omega)) (Ev.now _)
theorem implSignHead_ev (x : Int) (l : List S27) (hok : ∀ e ∈ l, okR e) : Ev (fun k => impl_SignHead.f k x l) (shL x l) := by
  simp only [impl_SignHead.f]
  refine Ev.bind (implRootOf_ev l hok) ?_
  simp only [impl_ysecret.f, secret_dec, Option.bind_some]
  by_cases hx : 1 ≤ x ∧ x < 1073741789
  case neg =>
    rw [show shL x l = (0, [], 0, 0) from if_neg (fun h => hx h.2)]
    simp only [decide_eq_false hx, Bool.false_eq_true, if_false]
    exact Ev.up1 (by simp only [impl_SignHead.j0, if_true]; exact Ev.now _)
  simp only [decide_eq_true hx, if_true, nilS.f, Option.bind_some]
  refine Ev.up1 ?_
  by_cases hg : goodLog l
  case neg =>
    rw [show shL x l = (0, [], 0, 0) from if_neg (fun h => hg h.1), show logRoot l = [] from if_neg hg]
    simp only [impl_SignHead.j0, List.length_nil, decide_true, if_true]
    exact Ev.now _
  rw [show shL x l = ((l.length : Int), logRoot l, (signL x (yb (l.length : Int) ++ logRoot l)).1, (signL x (yb (l.length : Int) ++ logRoot l)).2) from if_pos ⟨hg, hx⟩]
  have hlen := logRoot_len hg
  have hby := logRoot_bytes hg
  have h200 := hg.1
  generalize logRoot l = R at hlen hby
  have e2 : impl_yheadBytes.f (l.length : Int) R = some (yb (l.length : Int) ++ R) := by
    have y1 : impl_ybytes.f (l.length : Int) = some (yb (l.length : Int)) := rfl
    unfold impl_yheadBytes.f
    rw [y1, Option.bind_some, if_pos (by rw [yb_len]; omega)]
  simp only [impl_SignHead.j0, decide_eq_false (show ¬ R.length = 0 by omega), Bool.false_eq_true, if_false, e2, Option.bind_some]
  have h := implSign_ev x (yb (l.length : Int) ++ R) (isBytes_append (yb_bytes _) hby) (by rw [List.length_append, yb_len]; omega)
  rw [if_pos hx] at h
  exact Ev.bind h (Ev.now _)
theorem eqHead_same (n : Int) (root : List Int) (r s : Int) (hl : root.length ≤ 1048576) : Ev (fun k => laws_eqLogHead.f k n root r s n root r s) true := by
  simp only [laws_eqLogHead.f, laws_eqSig.f, if_true, Option.bind_some]
  refine Ev.bind (eqByteS_refl root (by omega)) ?_
  simp only [if_true]
  exact Ev.now _
theorem FnExactSignHead : laws_FnExactSignHead.Pure := by
  intro x l hx hl
  have hok : ∀ e ∈ l, okX e := fun e he => by
    have := hl.2 e he
    exact ⟨this.2.1, this.2.2.1, this.2.2.2.1, this.2.2.2.2⟩
  obtain ⟨r, hr, hsmall⟩ := szS_ev l hok hl.1
  apply Ev.rounds
  simp only [laws_FnExactSignHead.f]
  refine Ev.bind hr ?_
  by_cases hneg : r < 0
  · simp only [if_pos hneg]; exact Ev.now _
  obtain ⟨hlen, hs⟩ := hsmall hneg
  simp only [if_neg hneg]
  have hto := toS_ev l hs hlen
  have hspec := specSignHead_ev x (l.map toL) (toL_ok hok)
  have himpl := implSignHead_ev x (l.map toL) (toL_ok hok)
  have hR : (shL x (l.map toL)).2.1.length ≤ 16 := by
    by_cases hg : goodLog (l.map toL) ∧ 1 ≤ x ∧ x < 1073741789
    · rw [show shL x (l.map toL) = _ from if_pos hg]
      show (logRoot (l.map toL)).length ≤ 16
      rw [logRoot_len hg.1]; omega
    · rw [show shL x (l.map toL) = (0, [], 0, 0) from if_neg hg]
      show ([] : List Int).length ≤ 16
      simp
  generalize shL x (l.map toL) = H at hspec himpl hR
  obtain ⟨n, R, s1, s2⟩ := H
  replace hR : R.length ≤ 16 := hR
  obtain ⟨m, hm, hm0⟩ := marks_f l hs hlen
  have heq := eqHead_same n R s1 s2 (by omega)
  have hmark : Ev (fun k => laws_markLogHead.f k n R s1 s2 1) (1 + (R.length : Int), markL R.length 1) := by
    simp only [laws_markLogHead.f]
    exact Ev.bind (markByteS_ev R 1 (by omega) (by omega) (by omega)) (Ev.now _)
  have hheld : Ev (fun k => laws_heldLogHead.f k n (markL R.length 1) s1 s2 1) (1 + (R.length : Int)) := by
    simp only [laws_heldLogHead.f]
    refine Ev.bind (heldByteS_ev R.length 1 (by omega) (by omega) (by omega)) ?_
    simp only [if_neg (show ¬ (1 : Int) + R.length < 0 by omega)]
    exact Ev.now _
  refine Ev.bind hto ?_
  refine Ev.bind hspec ?_
  refine Ev.bind hto ?_
  refine Ev.bind himpl ?_
  refine Ev.bind heq ?_
  simp only [if_true]
  refine Ev.bind hto ?_
  refine Ev.bind (eqS_refl l hs hlen) ?_
  simp only [if_true, hm, Option.bind_some, if_neg (show ¬ m < 0 by omega)]
  refine Ev.bind heq ?_
  simp only [if_true]
  refine Ev.bind hmark ?_
  refine Ev.bind hheld ?_
  simp only [if_neg (show ¬ (1 : Int) + R.length < 0 by omega), if_true]
  refine Ev.bind hto ?_
  refine Ev.bind himpl ?_
  refine Ev.bind heq ?_
  simp only [if_true]
  refine Ev.bind hheld ?_
  simp only [if_neg (show ¬ (1 : Int) + R.length < 0 by omega), if_true]
  exact Ev.now _
end Go.Proofs.Ytipdkendfcopiaa.Pure
namespace Go.Proofs.Ytipdkendfcopiaa.fnExactSignHead
open Go.ChangeShapes Go.WideShapes Go.ChangeAt Go.RowKit Go.Proofs.Ytipdkendfcopiaa.Read Go.Proofs.YtipdkendfcopiaaW.PrintWords Go.Proofs.Ytipdkendfcopiaa.Pr
open Go.ChangeMaps (open_string shut_string)
set_option linter.unusedVariables false
theorem own : ownKnob Try.prog.godebug = none := by kernel_rfl
theorem laidOut : laidOutB Try.prog = true := by kernel_rfl
set_option maxRecDepth 100000 in
theorem lifted (os : Os) (started : os.Started) (H : Type) (enc : TypeId × Value → H) :
    ReturnsInHanded {} Try.checked os 13 .any (Rows.fnExactSignHeadSpec.pre6 enc Try.prog Try.f13 Rows.fnExactSignHeadRow.domain false) (Rows.fnExactSignHeadSpec.post enc Try.prog Try.f13 false true false false) := by
  refine returnsInHanded_of_change (C := Try.checked) own started (by kernel_rfl) Try.func13
    (ChangeSpec.witness6 (enc := enc) (C := Try.checked) false ⟨#[], #[.int .i64 0, .slice none 0 0], []⟩ 8 (by kernel_rfl) (by kernel_rfl) (by kernel_rfl) (by kernel_rfl)) ?_
  intro W base args ds gs before hval0 hW hcnd _
  have hval : ∀ (j : Nat) t v, Try.f13.params[j]? = some t → args[j]? = some v → Value.okWide Try.prog W .any base t v := hval0
  have hW' := hW
  obtain ⟨p, q, hA0, hV, rfl, hfz, hnd⟩ := hW
  have hA : DataW.TrodAll enc Try.prog W 0 (fun _ => true) true Try.f13.params.toList args.toList ds p := hA0
  rw [Try.params13] at hA hval
  obtain ⟨v0, vs0, d0, ds0, p0, q0, hargs, rfl, rfl, h0, r0⟩ := trodAll_cons hA
  obtain ⟨v1, vs1, d1, ds1, p1, q1, rfl, rfl, rfl, h1, r1⟩ := trodAll_cons r0
  obtain ⟨rfl, rfl, rfl⟩ := trodAll_nil r1
  obtain rfl : args = #[v0, v1] := by cases args; simp_all
  obtain ⟨rfl, rfl⟩ := trodVars_none hV
  have lt0 : ∀ x ∈ p0, x.block < W.heap.size := by obtain ⟨m, hm⟩ := h0; exact DataW.trod_lt m _ _ _ hm
  have bk0 := fun {W' : World} (bel : Below W.heap.size W W') => Below.trod laidOut (by kernel_rfl) (of_decide_eq_true (by kernel_rfl)) h0 bel lt0
  obtain ⟨a0, rfl, _, _, w0⟩ := open_int Try.underlying3 (hval 0 3 v0 rfl rfl) h0
  have o0 := int_bounds w0
  have lt1 : ∀ x ∈ p1, x.block < W.heap.size := by obtain ⟨m, hm⟩ := h1; exact DataW.trod_lt m _ _ _ hm
  have bk1 := fun {W' : World} (bel : Below W.heap.size W W') => Below.trod laidOut (by kernel_rfl) (of_decide_eq_true (by kernel_rfl)) h1 bel lt1
  obtain ⟨A1, c1, l1, rfl, hl1, hC1, o1⟩ := arg_slice Try.underlying36 (tellsL Try.underlying36 (by kernel_rfl) tells24) (hval 1 36 v1 rfl rfl) h1
  obtain ⟨k, hk⟩ := Pure.FnExactSignHead a0 l1 o0 o1
  refine (laws_FnExactSignHead.calls k a0 _ _ l1 true W hC1 hl1 hk).mono fun e W' hpost => ?_
  obtain ⟨he, hb⟩ := hpost
  have bel : Below W.heap.size W W' := hb
  subst he
  exact ⟨_, rfl, _, _, _, [], _, [], hW', trodAll_mk1 (shut_bool Try.underlying4 _), (trodAll_cons_mk (bk0 bel) (trodAll_cons_mk (bk1 bel) trodAll_mk0)), rfl, bel.frame _, fun h => by cases h⟩
theorem over : Rows.fnExactSignHeadRow.holds Try.pinned (OpenSpec.ofChange Rows.fnExactSignHeadSpec) :=
  OpenClaim.holds_of_wide 13 Try.f13 rfl rfl rfl rfl rfl rfl rfl ⟨rfl, rfl, rfl, rfl, rfl⟩ rfl rfl rfl rfl rfl (by kernel_rfl) Try.func13 (by kernel_rfl)
    (of_decide_eq_true (by kernel_rfl)) (by unfold Func.isWrapper; first | (rw [if_pos (by decide +kernel)]; kernel_rfl) | (rw [if_neg (by decide +kernel)]; exact ⟨rfl, rfl⟩))
    (fun os started H enc _ => lifted os started H enc)
theorem proved : Rows.FnExactSignHeadSaid := over
#print axioms proved
end Go.Proofs.Ytipdkendfcopiaa.fnExactSignHead
namespace Go.Proofs.Ytipdkendfcopiaa
theorem fnExactSignHead_holds : Rows.FnExactSignHeadSaid := fnExactSignHead.proved
end Go.Proofs.Ytipdkendfcopiaa
