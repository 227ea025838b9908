/- The law FnExactRootOf: whatever the input, the call returns true and the arguments read as before. No conditions. -/
import Derived.Test.YtipdkendfcopiaaFullFnExactRootOfD
import Derived.WalkSpells
import Derived.Test.YtipdkendfcopiaaRows
import Derived.WalkKit
import Derived.ProofKit
import Derived.OpenShut
import Derived.ShutString
import Derived.ChangeOld
import Derived.Below
namespace Go.Proofs.Ytipdkendfcopiaa.Pr
open Go.RowKit Go.Proofs.YtipdkendfcopiaaW.PrintWords Go.Proofs.YtipdkendfcopiaaW.PrintLast Go.Proofs.YtipdkendfcopiaaW.PrintMore
attribute [local go_sem] max2_int min2_int max_two min_two max_three min_three max_four min_four
set_option linter.unusedVariables false
set_option linter.unusedSimpArgs false
def laws_FnExactRootOf.f (k : Nat) (l0 : List (S24)) : Option (Bool) := (laws_szLogEntryS.f k l0 1048576).bind fun t101 => (if t101 < 0 then (some true) else ((laws_toLogEntryS.f k l0).bind fun t102 => ((spec_RootOf.f k t102).bind fun t105 => ((laws_toLogEntryS.f k l0).bind fun t108 => ((impl_RootOf.f k t108).bind fun t111 => ((laws_eqByteS.f k t111 t105).bind fun t114 => (if t114 = true then ((laws_toLogEntryS.f k l0).bind fun t115 => ((laws_eqLogEntryS.f k t108 t115).bind fun t118 => (if t118 = true then ((laws_markLogEntryS.f t108 1).bind fun t119 => (if t119 < 0 then (none) else ((laws_eqByteS.f k t111 t105).bind fun t120 => (if t120 = true then ((laws_markByteS.f k t111 1).bind fun bt121 => ((laws_heldByteS.f k bt121.2 1).bind fun t123 => (if t123 < 0 then (none) else (if t123 = bt121.1 then ((laws_toLogEntryS.f k l0).bind fun t124 => ((impl_RootOf.f k t124).bind fun t127 => ((laws_eqByteS.f k t127 t105).bind fun t130 => (if t130 = true then ((laws_heldByteS.f k bt121.2 1).bind fun t131 => (if t131 < 0 then (none) else (if t131 = bt121.1 then (some true) else (none)))) else (none))))) else (none))))) else (none))))) else (none)))) else (none))))))))
set_option maxHeartbeats 8000000 in
set_option maxRecDepth 100000 in
theorem laws_FnExactRootOf.calls (k : Nat) (A0 : Option Addr) (c0 : Nat) (l0 : List (S24)) (r : Bool) (w : World) (hr0 : Kd.C k24 w A0 l0.length l0) (hc0 : l0.length ≤ c0) (h : laws_FnExactRootOf.f k l0 = some r) :
    Calls Try.prog 7 #[.slice A0 l0.length c0] w fun e w' => e = .returned (.bool r) ∧ Below w.heap.size w w' := by
  have HR0 := Aside0.mk hr0
  have HC0 := Aside0.mk hc0
  clear hr0 hc0
  have HB := Aside0.mk (Below.refl w.heap.size w)
  have H : ((laws_szLogEntryS.f k l0 1048576).bind fun t101 => (if t101 < 0 then (some true) else ((laws_toLogEntryS.f k l0).bind fun t102 => ((spec_RootOf.f k t102).bind fun t105 => ((laws_toLogEntryS.f k l0).bind fun t108 => ((impl_RootOf.f k t108).bind fun t111 => ((laws_eqByteS.f k t111 t105).bind fun t114 => (if t114 = true then ((laws_toLogEntryS.f k l0).bind fun t115 => ((laws_eqLogEntryS.f k t108 t115).bind fun t118 => (if t118 = true then ((laws_markLogEntryS.f t108 1).bind fun t119 => (if t119 < 0 then (none) else ((laws_eqByteS.f k t111 t105).bind fun t120 => (if t120 = true then ((laws_markByteS.f k t111 1).bind fun bt121 => ((laws_heldByteS.f k bt121.2 1).bind fun t123 => (if t123 < 0 then (none) else (if t123 = bt121.1 then ((laws_toLogEntryS.f k l0).bind fun t124 => ((impl_RootOf.f k t124).bind fun t127 => ((laws_eqByteS.f k t127 t105).bind fun t130 => (if t130 = true then ((laws_heldByteS.f k bt121.2 1).bind fun t131 => (if t131 < 0 then (none) else (if t131 = bt121.1 then (some true) else (none)))) else (none))))) else (none))))) else (none))))) else (none)))) else (none))))))))) = some r := h
  clear h
  replace H := Option.bind_eq_some_iff.mp H
  obtain ⟨t101, A20, H⟩ := H
  replace H : (if t101 < 0 then (some true) else ((laws_toLogEntryS.f k l0).bind fun t102 => ((spec_RootOf.f k t102).bind fun t105 => ((laws_toLogEntryS.f k l0).bind fun t108 => ((impl_RootOf.f k t108).bind fun t111 => ((laws_eqByteS.f k t111 t105).bind fun t114 => (if t114 = true then ((laws_toLogEntryS.f k l0).bind fun t115 => ((laws_eqLogEntryS.f k t108 t115).bind fun t118 => (if t118 = true then ((laws_markLogEntryS.f t108 1).bind fun t119 => (if t119 < 0 then (none) else ((laws_eqByteS.f k t111 t105).bind fun t120 => (if t120 = true then ((laws_markByteS.f k t111 1).bind fun bt121 => ((laws_heldByteS.f k bt121.2 1).bind fun t123 => (if t123 < 0 then (none) else (if t123 = bt121.1 then ((laws_toLogEntryS.f k l0).bind fun t124 => ((impl_RootOf.f k t124).bind fun t127 => ((laws_eqByteS.f k t127 t105).bind fun t130 => (if t130 = true then ((laws_heldByteS.f k bt121.2 1).bind fun t131 => (if t131 < 0 then (none) else (if t131 = bt121.1 then (some true) else (none)))) else (none))))) else (none))))) else (none))))) else (none)))) else (none)))))))) = some r := H
  have A2 := Aside0.mk A20
  clear A20
  by_cases c3 : t101 < 0
  · rw [if_pos c3] at H
    have c3b0 : decide (t101 < 0) = true := decide_eq_true c3
    clear c3
    obtain rfl := Option.some.inj H
    go_enter Try.func7, Try.ntmps7
    go_wp2_with (first | ((with_reducible refine gate_callee (f := 33) rfl ?_); refine goesL_ (some 13) rfl rfl Try.func33 (by kernel_rfl) rfl #[.slice A0 l0.length c0, .int .i64 1048576] rfl (by (try simp only [List.map_toArray, List.map_cons, List.map_nil]); first | done | rfl | (simp only [List.length_drop, List.length_take]; rfl)) ?_; (with_reducible refine (laws_szLogEntryS.calls k _ _ l0 1048576 t101 _ ?side1 ?side2 A2.out).mono ?_); (case side1 => repeat (first | exact HR0.out | (with_reducible refine Kd.C_alloc ?_ _) | (with_reducible refine Kd.C_drewN ?_ _) | (with_reducible refine Kd.C_drew ?_))); (case side2 => exact HC0.out); rintro e w4 ⟨rfl, hb⟩; refine ⟨_, rfl, ?_⟩; have n0_ := Aside0.mk (below_step (by repeat (first | (with_reducible first | exact HB.out | apply below_alloc | apply pw_below_drewN | apply below_drew1) | exact HB.out)) hb); clear HB; have HB := n0_; clear n0_; (try clear hb); (try clear hb2); (try clear hk); (try clear hi)))
    go_ret
    exact ⟨by first | rfl | (simp [errW_none, errW_some] <;> rfl) | (simp [*, errW_none, errW_some] <;> rfl), by repeat (first | (with_reducible first | exact HB.out | apply below_alloc | apply pw_below_drewN | apply below_drew1) | exact HB.out)⟩
  · rw [if_neg c3] at H
    have c3b0 : decide (t101 < 0) = false := decide_eq_false c3
    clear c3
    replace H := Option.bind_eq_some_iff.mp H
    obtain ⟨t102, A50, H⟩ := H
    replace H : ((spec_RootOf.f k t102).bind fun t105 => ((laws_toLogEntryS.f k l0).bind fun t108 => ((impl_RootOf.f k t108).bind fun t111 => ((laws_eqByteS.f k t111 t105).bind fun t114 => (if t114 = true then ((laws_toLogEntryS.f k l0).bind fun t115 => ((laws_eqLogEntryS.f k t108 t115).bind fun t118 => (if t118 = true then ((laws_markLogEntryS.f t108 1).bind fun t119 => (if t119 < 0 then (none) else ((laws_eqByteS.f k t111 t105).bind fun t120 => (if t120 = true then ((laws_markByteS.f k t111 1).bind fun bt121 => ((laws_heldByteS.f k bt121.2 1).bind fun t123 => (if t123 < 0 then (none) else (if t123 = bt121.1 then ((laws_toLogEntryS.f k l0).bind fun t124 => ((impl_RootOf.f k t124).bind fun t127 => ((laws_eqByteS.f k t127 t105).bind fun t130 => (if t130 = true then ((laws_heldByteS.f k bt121.2 1).bind fun t131 => (if t131 < 0 then (none) else (if t131 = bt121.1 then (some true) else (none)))) else (none))))) else (none))))) else (none))))) else (none)))) else (none)))))) = some r := H
    have A5 := Aside0.mk A50
    clear A50
    replace H := Option.bind_eq_some_iff.mp H
    obtain ⟨t105, A60, H⟩ := H
    replace H : ((laws_toLogEntryS.f k l0).bind fun t108 => ((impl_RootOf.f k t108).bind fun t111 => ((laws_eqByteS.f k t111 t105).bind fun t114 => (if t114 = true then ((laws_toLogEntryS.f k l0).bind fun t115 => ((laws_eqLogEntryS.f k t108 t115).bind fun t118 => (if t118 = true then ((laws_markLogEntryS.f t108 1).bind fun t119 => (if t119 < 0 then (none) else ((laws_eqByteS.f k t111 t105).bind fun t120 => (if t120 = true then ((laws_markByteS.f k t111 1).bind fun bt121 => ((laws_heldByteS.f k bt121.2 1).bind fun t123 => (if t123 < 0 then (none) else (if t123 = bt121.1 then ((laws_toLogEntryS.f k l0).bind fun t124 => ((impl_RootOf.f k t124).bind fun t127 => ((laws_eqByteS.f k t127 t105).bind fun t130 => (if t130 = true then ((laws_heldByteS.f k bt121.2 1).bind fun t131 => (if t131 < 0 then (none) else (if t131 = bt121.1 then (some true) else (none)))) else (none))))) else (none))))) else (none))))) else (none)))) else (none))))) = some r := H
    have A6 := Aside0.mk A60
    clear A60
    replace H := Option.bind_eq_some_iff.mp H
    obtain ⟨t108, A70, H⟩ := H
    replace H : ((impl_RootOf.f k t108).bind fun t111 => ((laws_eqByteS.f k t111 t105).bind fun t114 => (if t114 = true then ((laws_toLogEntryS.f k l0).bind fun t115 => ((laws_eqLogEntryS.f k t108 t115).bind fun t118 => (if t118 = true then ((laws_markLogEntryS.f t108 1).bind fun t119 => (if t119 < 0 then (none) else ((laws_eqByteS.f k t111 t105).bind fun t120 => (if t120 = true then ((laws_markByteS.f k t111 1).bind fun bt121 => ((laws_heldByteS.f k bt121.2 1).bind fun t123 => (if t123 < 0 then (none) else (if t123 = bt121.1 then ((laws_toLogEntryS.f k l0).bind fun t124 => ((impl_RootOf.f k t124).bind fun t127 => ((laws_eqByteS.f k t127 t105).bind fun t130 => (if t130 = true then ((laws_heldByteS.f k bt121.2 1).bind fun t131 => (if t131 < 0 then (none) else (if t131 = bt121.1 then (some true) else (none)))) else (none))))) else (none))))) else (none))))) else (none)))) else (none)))) = some r := H
    have A7 := Aside0.mk A70
    clear A70
    replace H := Option.bind_eq_some_iff.mp H
    obtain ⟨t111, A80, H⟩ := H
    replace H : ((laws_eqByteS.f k t111 t105).bind fun t114 => (if t114 = true then ((laws_toLogEntryS.f k l0).bind fun t115 => ((laws_eqLogEntryS.f k t108 t115).bind fun t118 => (if t118 = true then ((laws_markLogEntryS.f t108 1).bind fun t119 => (if t119 < 0 then (none) else ((laws_eqByteS.f k t111 t105).bind fun t120 => (if t120 = true then ((laws_markByteS.f k t111 1).bind fun bt121 => ((laws_heldByteS.f k bt121.2 1).bind fun t123 => (if t123 < 0 then (none) else (if t123 = bt121.1 then ((laws_toLogEntryS.f k l0).bind fun t124 => ((impl_RootOf.f k t124).bind fun t127 => ((laws_eqByteS.f k t127 t105).bind fun t130 => (if t130 = true then ((laws_heldByteS.f k bt121.2 1).bind fun t131 => (if t131 < 0 then (none) else (if t131 = bt121.1 then (some true) else (none)))) else (none))))) else (none))))) else (none))))) else (none)))) else (none))) = some r := H
    have A8 := Aside0.mk A80
    clear A80
    replace H := Option.bind_eq_some_iff.mp H
    obtain ⟨t114, A90, H⟩ := H
    replace H : (if t114 = true then ((laws_toLogEntryS.f k l0).bind fun t115 => ((laws_eqLogEntryS.f k t108 t115).bind fun t118 => (if t118 = true then ((laws_markLogEntryS.f t108 1).bind fun t119 => (if t119 < 0 then (none) else ((laws_eqByteS.f k t111 t105).bind fun t120 => (if t120 = true then ((laws_markByteS.f k t111 1).bind fun bt121 => ((laws_heldByteS.f k bt121.2 1).bind fun t123 => (if t123 < 0 then (none) else (if t123 = bt121.1 then ((laws_toLogEntryS.f k l0).bind fun t124 => ((impl_RootOf.f k t124).bind fun t127 => ((laws_eqByteS.f k t127 t105).bind fun t130 => (if t130 = true then ((laws_heldByteS.f k bt121.2 1).bind fun t131 => (if t131 < 0 then (none) else (if t131 = bt121.1 then (some true) else (none)))) else (none))))) else (none))))) else (none))))) else (none)))) else (none)) = some r := H
    have A9 := Aside0.mk A90
    clear A90
    by_cases c10 : t114 = true
    · subst c10
      have H1 : ((laws_toLogEntryS.f k l0).bind fun t115 => ((laws_eqLogEntryS.f k t108 t115).bind fun t118 => (if t118 = true then ((laws_markLogEntryS.f t108 1).bind fun t119 => (if t119 < 0 then (none) else ((laws_eqByteS.f k t111 t105).bind fun t120 => (if t120 = true then ((laws_markByteS.f k t111 1).bind fun bt121 => ((laws_heldByteS.f k bt121.2 1).bind fun t123 => (if t123 < 0 then (none) else (if t123 = bt121.1 then ((laws_toLogEntryS.f k l0).bind fun t124 => ((impl_RootOf.f k t124).bind fun t127 => ((laws_eqByteS.f k t127 t105).bind fun t130 => (if t130 = true then ((laws_heldByteS.f k bt121.2 1).bind fun t131 => (if t131 < 0 then (none) else (if t131 = bt121.1 then (some true) else (none)))) else (none))))) else (none))))) else (none))))) else (none)))) = some r := by rw [if_pos rfl] at H; exact H
      clear H
      have H := H1
      clear H1
      replace H := Option.bind_eq_some_iff.mp H
      obtain ⟨t115, A110, H⟩ := H
      replace H : ((laws_eqLogEntryS.f k t108 t115).bind fun t118 => (if t118 = true then ((laws_markLogEntryS.f t108 1).bind fun t119 => (if t119 < 0 then (none) else ((laws_eqByteS.f k t111 t105).bind fun t120 => (if t120 = true then ((laws_markByteS.f k t111 1).bind fun bt121 => ((laws_heldByteS.f k bt121.2 1).bind fun t123 => (if t123 < 0 then (none) else (if t123 = bt121.1 then ((laws_toLogEntryS.f k l0).bind fun t124 => ((impl_RootOf.f k t124).bind fun t127 => ((laws_eqByteS.f k t127 t105).bind fun t130 => (if t130 = true then ((laws_heldByteS.f k bt121.2 1).bind fun t131 => (if t131 < 0 then (none) else (if t131 = bt121.1 then (some true) else (none)))) else (none))))) else (none))))) else (none))))) else (none))) = some r := H
      have A11 := Aside0.mk A110
      clear A110
      replace H := Option.bind_eq_some_iff.mp H
      obtain ⟨t118, A120, H⟩ := H
      replace H : (if t118 = true then ((laws_markLogEntryS.f t108 1).bind fun t119 => (if t119 < 0 then (none) else ((laws_eqByteS.f k t111 t105).bind fun t120 => (if t120 = true then ((laws_markByteS.f k t111 1).bind fun bt121 => ((laws_heldByteS.f k bt121.2 1).bind fun t123 => (if t123 < 0 then (none) else (if t123 = bt121.1 then ((laws_toLogEntryS.f k l0).bind fun t124 => ((impl_RootOf.f k t124).bind fun t127 => ((laws_eqByteS.f k t127 t105).bind fun t130 => (if t130 = true then ((laws_heldByteS.f k bt121.2 1).bind fun t131 => (if t131 < 0 then (none) else (if t131 = bt121.1 then (some true) else (none)))) else (none))))) else (none))))) else (none))))) else (none)) = some r := H
      have A12 := Aside0.mk A120
      clear A120
      by_cases c13 : t118 = true
      · subst c13
        have H1 : ((laws_markLogEntryS.f t108 1).bind fun t119 => (if t119 < 0 then (none) else ((laws_eqByteS.f k t111 t105).bind fun t120 => (if t120 = true then ((laws_markByteS.f k t111 1).bind fun bt121 => ((laws_heldByteS.f k bt121.2 1).bind fun t123 => (if t123 < 0 then (none) else (if t123 = bt121.1 then ((laws_toLogEntryS.f k l0).bind fun t124 => ((impl_RootOf.f k t124).bind fun t127 => ((laws_eqByteS.f k t127 t105).bind fun t130 => (if t130 = true then ((laws_heldByteS.f k bt121.2 1).bind fun t131 => (if t131 < 0 then (none) else (if t131 = bt121.1 then (some true) else (none)))) else (none))))) else (none))))) else (none))))) = some r := by rw [if_pos rfl] at H; exact H
        clear H
        have H := H1
        clear H1
        replace H := Option.bind_eq_some_iff.mp H
        obtain ⟨t119, A140, H⟩ := H
        replace H : (if t119 < 0 then (none) else ((laws_eqByteS.f k t111 t105).bind fun t120 => (if t120 = true then ((laws_markByteS.f k t111 1).bind fun bt121 => ((laws_heldByteS.f k bt121.2 1).bind fun t123 => (if t123 < 0 then (none) else (if t123 = bt121.1 then ((laws_toLogEntryS.f k l0).bind fun t124 => ((impl_RootOf.f k t124).bind fun t127 => ((laws_eqByteS.f k t127 t105).bind fun t130 => (if t130 = true then ((laws_heldByteS.f k bt121.2 1).bind fun t131 => (if t131 < 0 then (none) else (if t131 = bt121.1 then (some true) else (none)))) else (none))))) else (none))))) else (none)))) = some r := H
        have A14 := Aside0.mk A140
        clear A140
        by_cases c15 : t119 < 0
        · rw [if_pos c15] at H
          exact absurd H (by simp)
        · rw [if_neg c15] at H
          have c15b0 : decide (t119 < 0) = false := decide_eq_false c15
          clear c15
          replace H := Option.bind_eq_some_iff.mp H
          obtain ⟨t120, A160, H⟩ := H
          replace H : (if t120 = true then ((laws_markByteS.f k t111 1).bind fun bt121 => ((laws_heldByteS.f k bt121.2 1).bind fun t123 => (if t123 < 0 then (none) else (if t123 = bt121.1 then ((laws_toLogEntryS.f k l0).bind fun t124 => ((impl_RootOf.f k t124).bind fun t127 => ((laws_eqByteS.f k t127 t105).bind fun t130 => (if t130 = true then ((laws_heldByteS.f k bt121.2 1).bind fun t131 => (if t131 < 0 then (none) else (if t131 = bt121.1 then (some true) else (none)))) else (none))))) else (none))))) else (none)) = some r := H
          have A16 := Aside0.mk A160
          clear A160
          by_cases c17 : t120 = true
          · subst c17
            have H1 : ((laws_markByteS.f k t111 1).bind fun bt121 => ((laws_heldByteS.f k bt121.2 1).bind fun t123 => (if t123 < 0 then (none) else (if t123 = bt121.1 then ((laws_toLogEntryS.f k l0).bind fun t124 => ((impl_RootOf.f k t124).bind fun t127 => ((laws_eqByteS.f k t127 t105).bind fun t130 => (if t130 = true then ((laws_heldByteS.f k bt121.2 1).bind fun t131 => (if t131 < 0 then (none) else (if t131 = bt121.1 then (some true) else (none)))) else (none))))) else (none))))) = some r := by rw [if_pos rfl] at H; exact H
            clear H
            have H := H1
            clear H1
            replace H := Option.bind_eq_some_iff.mp H
            obtain ⟨⟨t121, t122⟩, A180, H⟩ := H
            replace H : ((laws_heldByteS.f k t122 1).bind fun t123 => (if t123 < 0 then (none) else (if t123 = t121 then ((laws_toLogEntryS.f k l0).bind fun t124 => ((impl_RootOf.f k t124).bind fun t127 => ((laws_eqByteS.f k t127 t105).bind fun t130 => (if t130 = true then ((laws_heldByteS.f k t122 1).bind fun t131 => (if t131 < 0 then (none) else (if t131 = t121 then (some true) else (none)))) else (none))))) else (none)))) = some r := H
            have A18 := Aside0.mk A180
            clear A180
            replace H := Option.bind_eq_some_iff.mp H
            obtain ⟨t123, A190, H⟩ := H
            replace H : (if t123 < 0 then (none) else (if t123 = t121 then ((laws_toLogEntryS.f k l0).bind fun t124 => ((impl_RootOf.f k t124).bind fun t127 => ((laws_eqByteS.f k t127 t105).bind fun t130 => (if t130 = true then ((laws_heldByteS.f k t122 1).bind fun t131 => (if t131 < 0 then (none) else (if t131 = t121 then (some true) else (none)))) else (none))))) else (none))) = some r := H
            have A19 := Aside0.mk A190
            clear A190
            by_cases c20 : t123 < 0
            · rw [if_pos c20] at H
              exact absurd H (by simp)
            · rw [if_neg c20] at H
              have c20b0 : decide (t123 < 0) = false := decide_eq_false c20
              clear c20
              by_cases c21 : t123 = t121
              · rw [if_pos c21] at H
                have c21b0 : (t123 == t121) = true := beq_iff_eq.mpr c21
                have c21b1 : (t123 != t121) = false := bne_eq_false_iff_eq.mpr c21
                clear c21
                replace H := Option.bind_eq_some_iff.mp H
                obtain ⟨t124, A220, H⟩ := H
                replace H : ((impl_RootOf.f k t124).bind fun t127 => ((laws_eqByteS.f k t127 t105).bind fun t130 => (if t130 = true then ((laws_heldByteS.f k t122 1).bind fun t131 => (if t131 < 0 then (none) else (if t131 = t121 then (some true) else (none)))) else (none)))) = some r := H
                have A22 := Aside0.mk A220
                clear A220
                replace H := Option.bind_eq_some_iff.mp H
                obtain ⟨t127, A230, H⟩ := H
                replace H : ((laws_eqByteS.f k t127 t105).bind fun t130 => (if t130 = true then ((laws_heldByteS.f k t122 1).bind fun t131 => (if t131 < 0 then (none) else (if t131 = t121 then (some true) else (none)))) else (none))) = some r := H
                have A23 := Aside0.mk A230
                clear A230
                replace H := Option.bind_eq_some_iff.mp H
                obtain ⟨t130, A240, H⟩ := H
                replace H : (if t130 = true then ((laws_heldByteS.f k t122 1).bind fun t131 => (if t131 < 0 then (none) else (if t131 = t121 then (some true) else (none)))) else (none)) = some r := H
                have A24 := Aside0.mk A240
                clear A240
                by_cases c25 : t130 = true
                · subst c25
                  have H1 : ((laws_heldByteS.f k t122 1).bind fun t131 => (if t131 < 0 then (none) else (if t131 = t121 then (some true) else (none)))) = some r := by rw [if_pos rfl] at H; exact H
                  clear H
                  have H := H1
                  clear H1
                  replace H := Option.bind_eq_some_iff.mp H
                  obtain ⟨t131, A260, H⟩ := H
                  replace H : (if t131 < 0 then (none) else (if t131 = t121 then (some true) else (none))) = some r := H
                  have A26 := Aside0.mk A260
                  clear A260
                  by_cases c27 : t131 < 0
                  · rw [if_pos c27] at H
                    exact absurd H (by simp)
                  · rw [if_neg c27] at H
                    have c27b0 : decide (t131 < 0) = false := decide_eq_false c27
                    clear c27
                    by_cases c28 : t131 = t121
                    · rw [if_pos c28] at H
                      have c28b0 : (t131 == t121) = true := beq_iff_eq.mpr c28
                      have c28b1 : (t131 != t121) = false := bne_eq_false_iff_eq.mpr c28
                      clear c28
                      obtain rfl := Option.some.inj H
                      go_enter Try.func7, Try.ntmps7
                      go_wp2_with (first | ((with_reducible refine gate_callee (f := 33) rfl ?_); refine goesL_ (some 13) rfl rfl Try.func33 (by kernel_rfl) rfl #[.slice A0 l0.length c0, .int .i64 1048576] rfl (by (try simp only [List.map_toArray, List.map_cons, List.map_nil]); first | done | rfl | (simp only [List.length_drop, List.length_take]; rfl)) ?_; (with_reducible refine (laws_szLogEntryS.calls k _ _ l0 1048576 t101 _ ?side1 ?side2 A2.out).mono ?_); (case side1 => repeat (first | exact HR0.out | (with_reducible refine Kd.C_alloc ?_ _) | (with_reducible refine Kd.C_drewN ?_ _) | (with_reducible refine Kd.C_drew ?_))); (case side2 => exact HC0.out); rintro e w29 ⟨rfl, hb⟩; refine ⟨_, rfl, ?_⟩; have n0_ := Aside0.mk (below_step (by repeat (first | (with_reducible first | exact HB.out | apply below_alloc | apply pw_below_drewN | apply below_drew1) | exact HB.out)) hb); clear HB; have HB := n0_; clear n0_; (try clear hb); (try clear hb2); (try clear hk); (try clear hi)) | ((with_reducible refine gate_callee (f := 35) rfl ?_); refine goesL_ (some 17) rfl rfl Try.func35 (by kernel_rfl) rfl #[.slice A0 l0.length c0] rfl (by (try simp only [List.map_toArray, List.map_cons, List.map_nil]); first | done | rfl | (simp only [List.length_drop, List.length_take]; rfl)) ?_; (with_reducible refine (laws_toLogEntryS.calls k _ _ l0 t102 _ ?side1 ?side2 A5.out).mono ?_); (case side1 => repeat (first | exact (Kd.C_below HR0.out HB.out) | (with_reducible refine Kd.C_alloc ?_ _) | (with_reducible refine Kd.C_drewN ?_ _) | (with_reducible refine Kd.C_drew ?_))); (case side2 => exact HC0.out); rintro e w30 ⟨v103, rfl, ho0, hb⟩; refine ⟨_, rfl, ?_⟩; have n0_ := Aside0.mk (Kd.S_lower ho0 (below_size (by repeat (first | (with_reducible first | exact HB.out | apply below_alloc | apply pw_below_drewN | apply below_drew1) | exact HB.out)))); have n1_ := Aside0.mk (below_step (by repeat (first | (with_reducible first | exact HB.out | apply below_alloc | apply pw_below_drewN | apply below_drew1) | exact HB.out)) hb); clear HB; have HO104 := n0_; have HB := n1_; clear n0_ n1_; (try clear hb); (try clear hb2); (try clear hk); (try clear hi); (try clear ho0); obtain ⟨Ao31, co31, eo31⟩ := Kd.S_slice HO104.out; subst eo31) | ((with_reducible refine gate_callee (f := 34) rfl ?_); refine goesL_ (some 18) rfl rfl Try.func34 (by kernel_rfl) rfl #[.slice Ao31 t102.length co31] rfl (by (try simp only [List.map_toArray, List.map_cons, List.map_nil]); first | done | rfl | (simp only [List.length_drop, List.length_take]; rfl)) ?_; (with_reducible refine (spec_RootOf.calls k _ _ t102 t105 _ ?side1 ?side2 A6.out).mono ?_); (case side1 => repeat (first | exact (Kd.S_reads' HO104.out).2.2 | (with_reducible refine Kd.C_alloc ?_ _) | (with_reducible refine Kd.C_drewN ?_ _) | (with_reducible refine Kd.C_drew ?_))); (case side2 => exact (Kd.S_reads' HO104.out).2.1); rintro e w32 ⟨v106, rfl, ho0, hb⟩; refine ⟨_, rfl, ?_⟩; have n0_ := Aside0.mk (Kd.S_below (by (with_reducible repeat (first | apply Kd.S_alloc | apply Kd.S_drewN | apply Kd.S_drew)); exact HO104.out) hb); have n1_ := Aside0.mk (Kd.V_lower (Kd.V_mono (ok' := fun k_ => some k_ ≠ (.slice Ao31 t102.length co31 : Value).ownBlock) ho0 (fun k_ hk_ => (Kd.fresh' (Kd.S_lt (by (with_reducible repeat (first | apply Kd.S_alloc | apply Kd.S_drewN | apply Kd.S_drew)); exact HO104.out)) k_ hk_))) (below_size (by repeat (first | (with_reducible first | exact HB.out | apply below_alloc | apply pw_below_drewN | apply below_drew1) | exact HB.out)))); have n2_ := Aside0.mk (below_step (by repeat (first | (with_reducible first | exact HB.out | apply below_alloc | apply pw_below_drewN | apply below_drew1) | exact HB.out)) hb); clear HO104; clear HB; have HO104 := n0_; have HO107 := n1_; have HB := n2_; clear n0_ n1_ n2_; (try clear hb); (try clear hb2); (try clear hk); (try clear hi); (try clear ho0)) | ((with_reducible refine gate_callee (f := 35) rfl ?_); refine goesL_ (some 20) rfl rfl Try.func35 (by kernel_rfl) rfl #[.slice A0 l0.length c0] rfl (by (try simp only [List.map_toArray, List.map_cons, List.map_nil]); first | done | rfl | (simp only [List.length_drop, List.length_take]; rfl)) ?_; (with_reducible refine (laws_toLogEntryS.calls k _ _ l0 t108 _ ?side1 ?side2 A7.out).mono ?_); (case side1 => repeat (first | exact (Kd.C_below HR0.out HB.out) | (with_reducible refine Kd.C_alloc ?_ _) | (with_reducible refine Kd.C_drewN ?_ _) | (with_reducible refine Kd.C_drew ?_))); (case side2 => exact HC0.out); rintro e w33 ⟨v109, rfl, ho0, hb⟩; refine ⟨_, rfl, ?_⟩; have XR := Aside0.mk (show Kd.R k27 27 w33 w32.heap.size (fun k => w32.heap.size ≤ k ∧ k < w33.heap.size) v109 t108 from Kd.R_mono (Kd.R_bound (Kd.S_R ho0)) (fun k hk => ⟨hk.2.1, hk.2.2.1⟩)); have XP := Aside0.mk (show w.heap.size ≤ w32.heap.size from below_size (by repeat (first | (with_reducible first | exact HB.out | apply below_alloc | apply pw_below_drewN | apply below_drew1) | exact HB.out))); have XS := Aside0.mk (show w32.heap.size ≤ w33.heap.size from hb.size); have XH := Aside0.mk (Below.refl w33.heap.size w33); have XBHO110 := Aside0.mk (show ∀ k, (v109 : Value).ownBlock = some k → w32.heap.size ≤ k from fun k e => Kd.S_base ho0 k e); have XVHO107 := Aside0.mk (Kd.V_old (by (with_reducible repeat (first | apply Kd.V_alloc | apply Kd.V_drewN | apply Kd.V_drew)); exact HO107.out) hb); have n0_ := Aside0.mk (Kd.S_elder' (by (with_reducible repeat (first | apply Kd.S_alloc | apply Kd.S_drewN | apply Kd.S_drew)); exact HO104.out) (Kd.S_base ho0) hb); have n1_ := Aside0.mk (Kd.V_elder' (by (with_reducible repeat (first | apply Kd.V_alloc | apply Kd.V_drewN | apply Kd.V_drew)); exact HO107.out) (Kd.S_base ho0) hb); have n2_ := Aside0.mk (Kd.S_lower (Kd.S_new' ho0 (Kd.S_lt (by (with_reducible repeat (first | apply Kd.S_alloc | apply Kd.S_drewN | apply Kd.S_drew)); exact HO104.out))) (below_size (by repeat (first | (with_reducible first | exact HB.out | apply below_alloc | apply pw_below_drewN | apply below_drew1) | exact HB.out)))); have n3_ := Aside0.mk (below_step (by repeat (first | (with_reducible first | exact HB.out | apply below_alloc | apply pw_below_drewN | apply below_drew1) | exact HB.out)) hb); clear HO104; clear HO107; clear HB; have HO104 := n0_; have HO107 := n1_; have HO110 := n2_; have HB := n3_; clear n0_ n1_ n2_ n3_; (try clear hb); (try clear hb2); (try clear hk); (try clear hi); (try clear ho0); obtain ⟨Ao34, co34, eo34⟩ := Kd.S_slice HO110.out; subst eo34) | ((with_reducible refine gate_callee (f := 36) rfl ?_); refine goesL_ (some 22) rfl rfl Try.func36 (by kernel_rfl) rfl #[.slice Ao34 t108.length co34] rfl (by (try simp only [List.map_toArray, List.map_cons, List.map_nil]); first | done | rfl | (simp only [List.length_drop, List.length_take]; rfl)) ?_; (with_reducible refine (impl_RootOf.calls k _ _ t108 t111 _ ?side1 ?side2 A8.out).mono ?_); (case side1 => repeat (first | exact (Kd.S_reads' HO110.out).2.2 | (with_reducible refine Kd.C_alloc ?_ _) | (with_reducible refine Kd.C_drewN ?_ _) | (with_reducible refine Kd.C_drew ?_))); (case side2 => exact (Kd.S_reads' HO110.out).2.1); rintro e w35 ⟨v112, rfl, ho0, hb⟩; refine ⟨_, rfl, ?_⟩; have XBHO113 := Aside0.mk (show ∀ k, (v112 : Value).ownBlock = some k → w33.heap.size ≤ k from fun k e => Nat.le_trans (below_size (by repeat (first | exact XH.out | apply below_alloc | apply pw_below_drewN | apply below_drew1))) (Kd.R_base ho0 k e)); have XH2 := Aside0.mk (below_step (by repeat (first | exact XH.out | apply below_alloc | apply pw_below_drewN | apply below_drew1)) hb); clear XH; have XH := XH2; clear XH2; have n0_ := Aside0.mk (Kd.S_elder' (by (with_reducible repeat (first | apply Kd.S_alloc | apply Kd.S_drewN | apply Kd.S_drew)); exact HO104.out) (Kd.R_base ho0) hb); have n1_ := Aside0.mk (Kd.V_elder' (by (with_reducible repeat (first | apply Kd.V_alloc | apply Kd.V_drewN | apply Kd.V_drew)); exact HO107.out) (Kd.R_base ho0) hb); have n2_ := Aside0.mk (Kd.S_elder' (by (with_reducible repeat (first | apply Kd.S_alloc | apply Kd.S_drewN | apply Kd.S_drew)); exact HO110.out) (Kd.R_base ho0) hb); have n3_ := Aside0.mk (Kd.R_lower ho0 (below_size (by repeat (first | (with_reducible first | exact HB.out | apply below_alloc | apply pw_below_drewN | apply below_drew1) | exact HB.out)))); have n4_ := Aside0.mk (below_step (by repeat (first | (with_reducible first | exact HB.out | apply below_alloc | apply pw_below_drewN | apply below_drew1) | exact HB.out)) hb); clear HO104; clear HO107; clear HO110; clear HB; have HO104 := n0_; have HO107 := n1_; have HO110 := n2_; have HO113 := n3_; have HB := n4_; clear n0_ n1_ n2_ n3_ n4_; (try clear hb); (try clear hb2); (try clear hk); (try clear hi); (try clear ho0); obtain ⟨Ao36, co36, eo36⟩ := Kd.R_slice HO113.out; subst eo36; obtain ⟨Ao37, co37, eo37⟩ := Kd.V_slice HO107.out; subst eo37) | ((with_reducible refine gate_callee (f := 24) rfl ?_); refine goesL_ (some 25) rfl rfl Try.func24 (by kernel_rfl) rfl #[.slice Ao36 t111.length co36, .slice Ao37 t105.length co37] rfl (by (try simp only [List.map_toArray, List.map_cons, List.map_nil]); first | done | rfl | (simp only [List.length_drop, List.length_take]; rfl)) ?_; (with_reducible refine (laws_eqByteS.calls k _ _ t111 _ _ t105 true _ ?side1 ?side2 ?side3 ?side4 A9.out).mono ?_); (case side1 => repeat (first | exact (Kd.R_reads' HO113.out).2.2 | (with_reducible refine Kd.C_alloc ?_ _) | (with_reducible refine Kd.C_drewN ?_ _) | (with_reducible refine Kd.C_drew ?_))); (case side2 => exact (Kd.R_reads' HO113.out).2.1); (case side3 => repeat (first | exact (Kd.V_reads' HO107.out).2.2 | (with_reducible refine Kd.C_alloc ?_ _) | (with_reducible refine Kd.C_drewN ?_ _) | (with_reducible refine Kd.C_drew ?_))); (case side4 => exact (Kd.V_reads' HO107.out).2.1); rintro e w' ⟨rfl, ⟨nd, rfl⟩⟩; refine ⟨_, rfl, ?_⟩) | ((with_reducible refine gate_callee (f := 35) rfl ?_); refine goesL_ (some 29) rfl rfl Try.func35 (by kernel_rfl) rfl #[.slice A0 l0.length c0] rfl (by (try simp only [List.map_toArray, List.map_cons, List.map_nil]); first | done | rfl | (simp only [List.length_drop, List.length_take]; rfl)) ?_; (with_reducible refine (laws_toLogEntryS.calls k _ _ l0 t115 _ ?side1 ?side2 A11.out).mono ?_); (case side1 => repeat (first | exact (Kd.C_below HR0.out (by repeat (first | (with_reducible first | exact HB.out | apply below_alloc | apply pw_below_drewN | apply below_drew1) | exact HB.out))) | (with_reducible refine Kd.C_alloc ?_ _) | (with_reducible refine Kd.C_drewN ?_ _) | (with_reducible refine Kd.C_drew ?_))); (case side2 => exact HC0.out); rintro e w38 ⟨v116, rfl, ho0, hb⟩; refine ⟨_, rfl, ?_⟩; have XBHO117 := Aside0.mk (show ∀ k, (v116 : Value).ownBlock = some k → w33.heap.size ≤ k from fun k e => Nat.le_trans (below_size (by repeat (first | exact XH.out | apply below_alloc | apply pw_below_drewN | apply below_drew1))) (Kd.S_base ho0 k e)); have XH2 := Aside0.mk (below_step (by repeat (first | exact XH.out | apply below_alloc | apply pw_below_drewN | apply below_drew1)) hb); clear XH; have XH := XH2; clear XH2; have n0_ := Aside0.mk (Kd.S_elder' (by (with_reducible repeat (first | apply Kd.S_alloc | apply Kd.S_drewN | apply Kd.S_drew)); exact HO104.out) (Kd.S_base ho0) hb); have n1_ := Aside0.mk (Kd.V_elder' (by (with_reducible repeat (first | apply Kd.V_alloc | apply Kd.V_drewN | apply Kd.V_drew)); exact HO107.out) (Kd.S_base ho0) hb); have n2_ := Aside0.mk (Kd.S_elder' (by (with_reducible repeat (first | apply Kd.S_alloc | apply Kd.S_drewN | apply Kd.S_drew)); exact HO110.out) (Kd.S_base ho0) hb); have n3_ := Aside0.mk (Kd.R_below (by (with_reducible repeat (first | apply Kd.R_alloc | apply Kd.R_drewN | apply Kd.R_drew)); exact HO113.out) hb); have n4_ := Aside0.mk (Kd.S_lower (Kd.S_new' (Kd.S_new' (Kd.S_new' ho0 (Kd.S_lt (by (with_reducible repeat (first | apply Kd.S_alloc | apply Kd.S_drewN | apply Kd.S_drew)); exact HO104.out))) (Kd.S_lt (by (with_reducible repeat (first | apply Kd.S_alloc | apply Kd.S_drewN | apply Kd.S_drew)); exact HO110.out))) (Kd.R_lt (by (with_reducible repeat (first | apply Kd.R_alloc | apply Kd.R_drewN | apply Kd.R_drew)); exact HO113.out))) (below_size (by repeat (first | (with_reducible first | exact HB.out | apply below_alloc | apply pw_below_drewN | apply below_drew1) | exact HB.out)))); have n5_ := Aside0.mk (below_step (by repeat (first | (with_reducible first | exact HB.out | apply below_alloc | apply pw_below_drewN | apply below_drew1) | exact HB.out)) hb); clear HO104; clear HO107; clear HO110; clear HO113; clear HB; have HO104 := n0_; have HO107 := n1_; have HO110 := n2_; have HO113 := n3_; have HO117 := n4_; have HB := n5_; clear n0_ n1_ n2_ n3_ n4_ n5_; (try clear hb); (try clear hb2); (try clear hk); (try clear hi); (try clear ho0); obtain ⟨Ao39, co39, eo39⟩ := Kd.S_slice HO117.out; subst eo39) | ((with_reducible refine gate_callee (f := 37) rfl ?_); refine goesL_ (some 30) rfl rfl Try.func37 (by kernel_rfl) rfl #[.slice Ao34 t108.length co34, .slice Ao39 t115.length co39] rfl (by (try simp only [List.map_toArray, List.map_cons, List.map_nil]); first | done | rfl | (simp only [List.length_drop, List.length_take]; rfl)) ?_; (with_reducible refine (laws_eqLogEntryS.calls k _ _ t108 _ _ t115 true _ ?side1 ?side2 ?side3 ?side4 A12.out).mono ?_); (case side1 => repeat (first | exact (Kd.S_reads' HO110.out).2.2 | (with_reducible refine Kd.C_alloc ?_ _) | (with_reducible refine Kd.C_drewN ?_ _) | (with_reducible refine Kd.C_drew ?_))); (case side2 => exact (Kd.S_reads' HO110.out).2.1); (case side3 => repeat (first | exact (Kd.S_reads' HO117.out).2.2 | (with_reducible refine Kd.C_alloc ?_ _) | (with_reducible refine Kd.C_drewN ?_ _) | (with_reducible refine Kd.C_drew ?_))); (case side4 => exact (Kd.S_reads' HO117.out).2.1); rintro e w40 ⟨rfl, hb⟩; refine ⟨_, rfl, ?_⟩; have XH2 := Aside0.mk (below_step (by repeat (first | exact XH.out | apply below_alloc | apply pw_below_drewN | apply below_drew1)) hb); clear XH; have XH := XH2; clear XH2; have n0_ := Aside0.mk (Kd.S_below (by (with_reducible repeat (first | apply Kd.S_alloc | apply Kd.S_drewN | apply Kd.S_drew)); exact HO104.out) hb); have n1_ := Aside0.mk (Kd.V_below (by (with_reducible repeat (first | apply Kd.V_alloc | apply Kd.V_drewN | apply Kd.V_drew)); exact HO107.out) hb); have n2_ := Aside0.mk (Kd.S_below (by (with_reducible repeat (first | apply Kd.S_alloc | apply Kd.S_drewN | apply Kd.S_drew)); exact HO110.out) hb); have n3_ := Aside0.mk (Kd.R_below (by (with_reducible repeat (first | apply Kd.R_alloc | apply Kd.R_drewN | apply Kd.R_drew)); exact HO113.out) hb); have n4_ := Aside0.mk (Kd.S_below (by (with_reducible repeat (first | apply Kd.S_alloc | apply Kd.S_drewN | apply Kd.S_drew)); exact HO117.out) hb); have n5_ := Aside0.mk (below_step (by repeat (first | (with_reducible first | exact HB.out | apply below_alloc | apply pw_below_drewN | apply below_drew1) | exact HB.out)) hb); clear HO104; clear HO107; clear HO110; clear HO113; clear HO117; clear HB; have HO104 := n0_; have HO107 := n1_; have HO110 := n2_; have HO113 := n3_; have HO117 := n4_; have HB := n5_; clear n0_ n1_ n2_ n3_ n4_ n5_; (try clear hb); (try clear hb2); (try clear hk); (try clear hi)) | ((with_reducible refine gate_callee (f := 38) rfl ?_); refine goesL_ (some 34) rfl rfl Try.func38 (by kernel_rfl) rfl #[.slice Ao34 t108.length co34, .int .i64 1] rfl (by (try simp only [List.map_toArray, List.map_cons, List.map_nil]); first | done | rfl | (simp only [List.length_drop, List.length_take]; rfl)) ?_; (refine (laws_markLogEntryS.callsR (fun k => w32.heap.size ≤ k ∧ k < w33.heap.size) _ _ t108 1 _ _ (Kd.R_below XR.out (by repeat (first | exact XH.out | apply below_alloc | apply pw_below_drewN | apply below_drew1))) A14.out).mono ?_); rintro e w41 ⟨rfl, hm⟩; refine ⟨_, rfl, ?_⟩; have XLHO104 := Aside0.mk (fun k e => Nat.lt_of_lt_of_le (Kd.S_lt (by (with_reducible repeat (first | apply Kd.S_alloc | apply Kd.S_drewN | apply Kd.S_drew)); exact HO104.out) k e) hm.size); have XLHO110 := Aside0.mk (fun k e => Nat.lt_of_lt_of_le (Kd.S_lt (by (with_reducible repeat (first | apply Kd.S_alloc | apply Kd.S_drewN | apply Kd.S_drew)); exact HO110.out) k e) hm.size); have XLHO117 := Aside0.mk (fun k e => Nat.lt_of_lt_of_le (Kd.S_lt (by (with_reducible repeat (first | apply Kd.S_alloc | apply Kd.S_drewN | apply Kd.S_drew)); exact HO117.out) k e) hm.size); have XM := Aside0.mk (Nat.le_refl w41.heap.size); have nv0_ := Aside0.mk (V_mono_as HO107.out (Kd.V_kept (Kd.V_below XVHO107.out (by repeat (first | exact XH.out | apply below_alloc | apply pw_below_drewN | apply below_drew1))) hm.keptS (fun k hk hP => absurd hP.1 (Nat.not_le.2 hk.2))) (fun k hk => by (repeat' apply And.intro) <;> first | exact hk.1 | exact hk.1.1 | exact hk.1.2 | exact fun e_ => absurd (XBHO110.out k e_.symm) (Nat.not_le.2 hk.2) | exact fun e_ => absurd (Nat.le_trans XS.out (XBHO113.out k e_.symm)) (Nat.not_le.2 hk.2) | exact fun e_ => absurd (Nat.le_trans XS.out (XBHO117.out k e_.symm)) (Nat.not_le.2 hk.2))); have nr0_ := Aside0.mk (Kd.R_reok rfl (Kd.R_kept (Kd.R_tight rfl (by (with_reducible repeat (first | apply Kd.R_alloc | apply Kd.R_drewN | apply Kd.R_drew)); exact HO113.out)) hm.keptS (fun k e_ hP => absurd hP.2 (Nat.not_lt.2 (XBHO113.out k e_.symm)))) (fun k e_ => HO113.out.1 k e_)); have nb_ := Aside0.mk (Below.trans (B := w.heap.size) (by repeat (first | (with_reducible first | exact HB.out | apply below_alloc | apply pw_below_drewN | apply below_drew1) | exact HB.out)) (hm.bel (below_size (by repeat (first | (with_reducible first | exact HB.out | apply below_alloc | apply pw_below_drewN | apply below_drew1) | exact HB.out))) (fun k hk => Nat.le_trans XP.out hk.1))); clear HO107; clear HO113; clear HB; have HO107 := nv0_; have HO113 := nr0_; have HB := nb_; clear nv0_ nr0_ nb_; clear hm XR XH) | (go_at_call 24; (with_reducible refine (laws_eqByteS.calls k _ _ t111 _ _ t105 true _ ?side1 ?side2 ?side3 ?side4 A16.out).mono ?_); (case side1 => repeat (first | exact (Kd.R_reads' HO113.out).2.2 | (with_reducible refine Kd.C_alloc ?_ _) | (with_reducible refine Kd.C_drewN ?_ _) | (with_reducible refine Kd.C_drew ?_))); (case side2 => exact (Kd.R_reads' HO113.out).2.1); (case side3 => repeat (first | exact (Kd.V_reads' HO107.out).2.2 | (with_reducible refine Kd.C_alloc ?_ _) | (with_reducible refine Kd.C_drewN ?_ _) | (with_reducible refine Kd.C_drew ?_))); (case side4 => exact (Kd.V_reads' HO107.out).2.1); rintro e w' ⟨rfl, ⟨nd, rfl⟩⟩) | ((with_reducible refine gate_callee (f := 26) rfl ?_); refine goesL_ (some 45) rfl rfl Try.func26 (by kernel_rfl) rfl #[.slice Ao36 t111.length co36, .int .i64 1] rfl (by (try simp only [List.map_toArray, List.map_cons, List.map_nil]); first | done | rfl | (simp only [List.length_drop, List.length_take]; rfl)) ?_; (with_reducible refine (laws_markByteS.calls k (fun k_ => some k_ = (.slice Ao36 t111.length co36 : Value).ownBlock) (.slice Ao36 t111.length co36) t111 1 t121 t122 w _ ?side1 ?side2 A18.out).mono ?_); (case side1 => repeat (first | (with_reducible first | exact HB.out | apply below_alloc | apply pw_below_drewN | apply below_drew1) | exact HB.out)); (case side2 => exact Kd.R_tight rfl HO113.out); rintro e w42 ⟨rfl, hy0, hb, hkp⟩; refine ⟨_, rfl, ?_⟩; have n1_ := Aside0.mk (Kd.V_mono (ok' := fun k_ => some k_ ≠ (.slice Ao31 t102.length co31 : Value).ownBlock ∧ some k_ ≠ (.slice Ao34 t108.length co34 : Value).ownBlock ∧ some k_ ≠ (.slice Ao36 t111.length co36 : Value).ownBlock ∧ some k_ ≠ (.slice Ao39 t115.length co39 : Value).ownBlock) (Kd.V_keptB (HO107.out) hkp (fun k_ hk_ hs_ => absurd hs_ (by first | exact hk_.1.2 | ((try simp only [and_assoc] at hk_); first | exact hk_.1 | exact hk_.2.1 | exact hk_.2.2.1 | exact hk_.2.2.2.1 | exact hk_.2.2.2.2.1 | exact hk_.2.2.2.2.2.1 | exact hk_.2.2.2.2.2.2.1 | exact hk_.2.2.2.2.2.2.2.1 | exact hk_.2.2.2.2.2.2.2.2.1 | exact hk_.2.2.2.2.2.2.2.2.2.1 | exact hk_.2.2.2.2.2.2.2.2.2.2.1 | exact hk_.2.2.2.2.2.2.2.2.2.2.2.1 | exact hk_.2.2.2.2.2.2.2.2.2.2.2.2.1 | exact hk_.2.2.2.2.2.2.2.2.2.2.2.2.2.1 | exact hk_.2.2.2.2.2.2.2.2.2.2.2.2.2.2.1 | exact hk_.2.2.2.2.2.2.2.2.2.2.2.2.2.2.2.1 | exact hk_.2 | exact hk_.2.2 | exact hk_.2.2.2 | exact hk_.2.2.2.2 | exact hk_.2.2.2.2.2 | exact hk_.2.2.2.2.2.2 | exact hk_.2.2.2.2.2.2.2 | exact hk_.2.2.2.2.2.2.2.2 | exact hk_.2.2.2.2.2.2.2.2.2 | exact hk_.2.2.2.2.2.2.2.2.2.2 | exact hk_.2.2.2.2.2.2.2.2.2.2.2 | exact hk_.2.2.2.2.2.2.2.2.2.2.2.2 | exact hk_.2.2.2.2.2.2.2.2.2.2.2.2.2 | exact hk_.2.2.2.2.2.2.2.2.2.2.2.2.2.2 | exact hk_.2.2.2.2.2.2.2.2.2.2.2.2.2.2.2)))) (fun k_ hk_ => by first | exact ⟨hk_.1.1.1.1, hk_.1.1.1.2, hk_.1.1.2, hk_.1.2⟩ | ((try simp only [and_assoc] at hk_); (try simp only [and_assoc]); (repeat' refine And.intro ?_ ?_) <;> (first | exact hk_.1 | exact hk_.2.1 | exact hk_.2.2.1 | exact hk_.2.2.2.1 | exact hk_.2.2.2.2.1 | exact hk_.2.2.2.2.2.1 | exact hk_.2.2.2.2.2.2.1 | exact hk_.2.2.2.2.2.2.2.1 | exact hk_.2.2.2.2.2.2.2.2.1 | exact hk_.2.2.2.2.2.2.2.2.2.1 | exact hk_.2.2.2.2.2.2.2.2.2.2.1 | exact hk_.2.2.2.2.2.2.2.2.2.2.2.1 | exact hk_.2.2.2.2.2.2.2.2.2.2.2.2.1 | exact hk_.2.2.2.2.2.2.2.2.2.2.2.2.2.1 | exact hk_.2.2.2.2.2.2.2.2.2.2.2.2.2.2.1 | exact hk_.2.2.2.2.2.2.2.2.2.2.2.2.2.2.2.1 | exact hk_.2 | exact hk_.2.2 | exact hk_.2.2.2 | exact hk_.2.2.2.2 | exact hk_.2.2.2.2.2 | exact hk_.2.2.2.2.2.2 | exact hk_.2.2.2.2.2.2.2 | exact hk_.2.2.2.2.2.2.2.2 | exact hk_.2.2.2.2.2.2.2.2.2 | exact hk_.2.2.2.2.2.2.2.2.2.2 | exact hk_.2.2.2.2.2.2.2.2.2.2.2 | exact hk_.2.2.2.2.2.2.2.2.2.2.2.2 | exact hk_.2.2.2.2.2.2.2.2.2.2.2.2.2 | exact hk_.2.2.2.2.2.2.2.2.2.2.2.2.2.2 | exact hk_.2.2.2.2.2.2.2.2.2.2.2.2.2.2.2)))); have n3_ := Aside0.mk (Kd.R_reok rfl hy0 (fun k_ e_ => HO113.out.1 k_ e_)); have n5_ := Aside0.mk (hb); have XM2 := Aside0.mk (Nat.le_trans XM.out hkp.1); clear XM; have XM := XM2; clear XM2; clear HO107; clear HO113; clear HB; have HO107 := n1_; have HO113 := n3_; have HB := n5_; clear n1_ n3_ n5_; (try clear hb); (try clear hkp); (try clear hy0)) | ((with_reducible refine gate_callee (f := 27) rfl ?_); refine goesL_ (some 48) rfl rfl Try.func27 (by kernel_rfl) rfl #[.slice Ao36 t122.length co36, .int .i64 1] rfl (by (try simp only [List.map_toArray, List.map_cons, List.map_nil]); first | done | (rw [show t122.length = t111.length from (Kd.R_reads' HO113.out).1.symm] <;> rfl) | rfl | (simp only [List.length_drop, List.length_take]; rfl)) ?_; (with_reducible refine (laws_heldByteS.calls k _ _ t122 1 t123 _ ?side1 ?side2 A19.out).mono ?_); (case side1 => repeat (first | exact (Kd.R_reads' HO113.out).2.2 | (with_reducible refine Kd.C_alloc ?_ _) | (with_reducible refine Kd.C_drewN ?_ _) | (with_reducible refine Kd.C_drew ?_))); (case side2 => rw [show t122.length = t111.length from (Kd.R_reads' HO113.out).1.symm]; exact (Kd.R_reads' HO113.out).2.1); rintro e w' ⟨rfl, ⟨nd, rfl⟩⟩; refine ⟨_, rfl, ?_⟩) | ((with_reducible refine gate_callee (f := 35) rfl ?_); refine goesL_ (some 55) rfl rfl Try.func35 (by kernel_rfl) rfl #[.slice A0 l0.length c0] rfl (by (try simp only [List.map_toArray, List.map_cons, List.map_nil]); first | done | rfl | (simp only [List.length_drop, List.length_take]; rfl)) ?_; (with_reducible refine (laws_toLogEntryS.calls k _ _ l0 t124 _ ?side1 ?side2 A22.out).mono ?_); (case side1 => repeat (first | exact (Kd.C_below HR0.out (by repeat (first | (with_reducible first | exact HB.out | apply below_alloc | apply pw_below_drewN | apply below_drew1) | exact HB.out))) | (with_reducible refine Kd.C_alloc ?_ _) | (with_reducible refine Kd.C_drewN ?_ _) | (with_reducible refine Kd.C_drew ?_))); (case side2 => exact HC0.out); rintro e w43 ⟨v125, rfl, ho0, hb⟩; refine ⟨_, rfl, ?_⟩; have n1_ := Aside0.mk (Kd.V_elder' (by (with_reducible repeat (first | apply Kd.V_alloc | apply Kd.V_drewN | apply Kd.V_drew)); exact HO107.out) (Kd.S_base ho0) hb); have n3_ := Aside0.mk (Kd.R_below (by (with_reducible repeat (first | apply Kd.R_alloc | apply Kd.R_drewN | apply Kd.R_drew)); exact HO113.out) hb); have n5_ := Aside0.mk (Kd.S_lower (Kd.S_new' (Kd.S_new' (Kd.S_new' (Kd.S_new' ho0 (fun k e => Nat.lt_of_lt_of_le (XLHO104.out k e) XM.out)) (fun k e => Nat.lt_of_lt_of_le (XLHO110.out k e) XM.out)) (Kd.R_lt (by (with_reducible repeat (first | apply Kd.R_alloc | apply Kd.R_drewN | apply Kd.R_drew)); exact HO113.out))) (fun k e => Nat.lt_of_lt_of_le (XLHO117.out k e) XM.out)) (below_size (by repeat (first | (with_reducible first | exact HB.out | apply below_alloc | apply pw_below_drewN | apply below_drew1) | exact HB.out)))); have n6_ := Aside0.mk (below_step (by repeat (first | (with_reducible first | exact HB.out | apply below_alloc | apply pw_below_drewN | apply below_drew1) | exact HB.out)) hb); have XM2 := Aside0.mk (Nat.le_trans XM.out hb.size); clear XM; have XM := XM2; clear XM2; clear HO107; clear HO113; clear HB; have HO107 := n1_; have HO113 := n3_; have HO126 := n5_; have HB := n6_; clear n1_ n3_ n5_ n6_; (try clear hb); (try clear hb2); (try clear hk); (try clear hi); (try clear ho0); obtain ⟨Ao44, co44, eo44⟩ := Kd.S_slice HO126.out; subst eo44) | ((with_reducible refine gate_callee (f := 36) rfl ?_); refine goesL_ (some 56) rfl rfl Try.func36 (by kernel_rfl) rfl #[.slice Ao44 t124.length co44] rfl (by (try simp only [List.map_toArray, List.map_cons, List.map_nil]); first | done | rfl | (simp only [List.length_drop, List.length_take]; rfl)) ?_; (with_reducible refine (impl_RootOf.calls k _ _ t124 t127 _ ?side1 ?side2 A23.out).mono ?_); (case side1 => repeat (first | exact (Kd.S_reads' HO126.out).2.2 | (with_reducible refine Kd.C_alloc ?_ _) | (with_reducible refine Kd.C_drewN ?_ _) | (with_reducible refine Kd.C_drew ?_))); (case side2 => exact (Kd.S_reads' HO126.out).2.1); rintro e w45 ⟨v128, rfl, ho0, hb⟩; refine ⟨_, rfl, ?_⟩; have n1_ := Aside0.mk (Kd.V_elder' (by (with_reducible repeat (first | apply Kd.V_alloc | apply Kd.V_drewN | apply Kd.V_drew)); exact HO107.out) (Kd.R_base ho0) hb); have n3_ := Aside0.mk (Kd.R_elder' (by (with_reducible repeat (first | apply Kd.R_alloc | apply Kd.R_drewN | apply Kd.R_drew)); exact HO113.out) (Kd.R_base ho0) hb); have n5_ := Aside0.mk (Kd.S_elder' (by (with_reducible repeat (first | apply Kd.S_alloc | apply Kd.S_drewN | apply Kd.S_drew)); exact HO126.out) (Kd.R_base ho0) hb); have n6_ := Aside0.mk (Kd.R_lower (Kd.R_new' ho0 (Kd.R_lt (by (with_reducible repeat (first | apply Kd.R_alloc | apply Kd.R_drewN | apply Kd.R_drew)); exact HO113.out))) (below_size (by repeat (first | (with_reducible first | exact HB.out | apply below_alloc | apply pw_below_drewN | apply below_drew1) | exact HB.out)))); have n7_ := Aside0.mk (below_step (by repeat (first | (with_reducible first | exact HB.out | apply below_alloc | apply pw_below_drewN | apply below_drew1) | exact HB.out)) hb); have XM2 := Aside0.mk (Nat.le_trans XM.out hb.size); clear XM; have XM := XM2; clear XM2; clear HO107; clear HO113; clear HO126; clear HB; have HO107 := n1_; have HO113 := n3_; have HO126 := n5_; have HO129 := n6_; have HB := n7_; clear n1_ n3_ n5_ n6_ n7_; (try clear hb); (try clear hb2); (try clear hk); (try clear hi); (try clear ho0); obtain ⟨Ao46, co46, eo46⟩ := Kd.R_slice HO129.out; subst eo46) | ((with_reducible refine gate_callee (f := 24) rfl ?_); refine goesL_ (some 59) rfl rfl Try.func24 (by kernel_rfl) rfl #[.slice Ao46 t127.length co46, .slice Ao37 t105.length co37] rfl (by (try simp only [List.map_toArray, List.map_cons, List.map_nil]); first | done | rfl | (simp only [List.length_drop, List.length_take]; rfl)) ?_; (with_reducible refine (laws_eqByteS.calls k _ _ t127 _ _ t105 true _ ?side1 ?side2 ?side3 ?side4 A24.out).mono ?_); (case side1 => repeat (first | exact (Kd.R_reads' HO129.out).2.2 | (with_reducible refine Kd.C_alloc ?_ _) | (with_reducible refine Kd.C_drewN ?_ _) | (with_reducible refine Kd.C_drew ?_))); (case side2 => exact (Kd.R_reads' HO129.out).2.1); (case side3 => repeat (first | exact (Kd.V_reads' HO107.out).2.2 | (with_reducible refine Kd.C_alloc ?_ _) | (with_reducible refine Kd.C_drewN ?_ _) | (with_reducible refine Kd.C_drew ?_))); (case side4 => exact (Kd.V_reads' HO107.out).2.1); rintro e w' ⟨rfl, ⟨nd, rfl⟩⟩; refine ⟨_, rfl, ?_⟩) | ((with_reducible refine gate_callee (f := 27) rfl ?_); refine goesL_ (some 63) rfl rfl Try.func27 (by kernel_rfl) rfl #[.slice Ao36 t122.length co36, .int .i64 1] rfl (by (try simp only [List.map_toArray, List.map_cons, List.map_nil]); first | done | (rw [show t122.length = t111.length from (Kd.R_reads' HO113.out).1.symm] <;> rfl) | rfl | (simp only [List.length_drop, List.length_take]; rfl)) ?_; (with_reducible refine (laws_heldByteS.calls k _ _ t122 1 t131 _ ?side1 ?side2 A26.out).mono ?_); (case side1 => repeat (first | exact (Kd.R_reads' HO113.out).2.2 | (with_reducible refine Kd.C_alloc ?_ _) | (with_reducible refine Kd.C_drewN ?_ _) | (with_reducible refine Kd.C_drew ?_))); (case side2 => rw [show t122.length = t111.length from (Kd.R_reads' HO113.out).1.symm]; exact (Kd.R_reads' HO113.out).2.1); rintro e w' ⟨rfl, ⟨nd, rfl⟩⟩; refine ⟨_, rfl, ?_⟩))
                      go_ret
                      exact ⟨by first | rfl | (simp [errW_none, errW_some] <;> rfl) | (simp [*, errW_none, errW_some] <;> rfl), by repeat (first | (with_reducible first | exact HB.out | apply below_alloc | apply pw_below_drewN | apply below_drew1) | exact HB.out)⟩
                    · rw [if_neg c28] at H
                      exact absurd H (by simp)
                · replace c25 := Bool.eq_false_iff.mpr c25
                  subst c25
                  have H1 : (none) = some r := by rw [if_neg (show ¬ (false = true) by decide)] at H; exact H
                  clear H
                  have H := H1
                  clear H1
                  exact absurd H (by simp)
              · rw [if_neg c21] at H
                exact absurd H (by simp)
          · replace c17 := Bool.eq_false_iff.mpr c17
            subst c17
            have H1 : (none) = some r := by rw [if_neg (show ¬ (false = true) by decide)] at H; exact H
            clear H
            have H := H1
            clear H1
            exact absurd H (by simp)
      · replace c13 := Bool.eq_false_iff.mpr c13
        subst c13
        have H1 : (none) = some r := by rw [if_neg (show ¬ (false = true) by decide)] at H; exact H
        clear H
        have H := H1
        clear H1
        exact absurd H (by simp)
    · replace c10 := Bool.eq_false_iff.mpr c10
      subst c10
      have H1 : (none) = some r := by rw [if_neg (show ¬ (false = true) by decide)] at H; exact H
      clear H
      have H := H1
      clear H1
      exact absurd H (by simp)
open Go.RowKit Go.Proofs.Ytipdkendfcopiaa.Read Go.Proofs.YtipdkendfcopiaaW.PrintWords
def ok24 (x : S24) : Prop := okI x.f0 ∧ okS x.f1 ∧ okS x.f2 ∧ (okL okB) x.f3 ∧ (okL okB) x.f4
theorem tells24 : Tells Try.prog 24 k24 ok24 :=
  tells_iso (fun x : S24 => (x.f0, x.f1, x.f2, x.f3, x.f4)) (fun a => ⟨a.1, a.2.1, a.2.2.1, a.2.2.2.1, a.2.2.2.2⟩) (fun _ => rfl) (tells_struct Try.underlying24 (by kernel_rfl) (fs_cons rfl (tellsI Try.underlying3 (by kernel_rfl)) (fs_cons rfl (tellsS Try.underlying9 (by kernel_rfl)) (fs_cons rfl (tellsS Try.underlying9 (by kernel_rfl)) (fs_cons rfl (tellsL Try.underlying22 (by kernel_rfl) (tellsB Try.underlying5 (by kernel_rfl))) (fs_one rfl (tellsL Try.underlying22 (by kernel_rfl) (tellsB Try.underlying5 (by kernel_rfl)))))))))
def laws_FnExactRootOf.Pure : Prop := ∀ (l0 : (List S24)), (okL ok24) l0 → ∃ k, laws_FnExactRootOf.f k l0 = some true
theorem w64 {n : Int} (h0 : -9223372036854775808 ≤ n) (h1 : n ≤ 9223372036854775807) : wrap64 n = n := by unfold wrap64; omega
theorem rd_nat {l : List Int} {i : Nat} (h : i < l.length) : rd l (i : Int) = l[i] := by
  simp [rd, List.getD_eq_getElem?_getD, List.getElem?_eq_getElem h]
theorem szByteS_eq (l : List Int) (n : Int) : laws_szByteS.f l n = some (if wrap64 (n - l.length) < 0 then -1 else wrap64 (n - l.length)) := by
  unfold laws_szByteS.f; split <;> rfl
theorem toByteS_l0 (x0 : List Int) (hl : x0.length ≤ 281474976710656) (d : Nat) : ∀ (k i : Nat) (x3 : List Int), x0.length - i = d → i ≤ x0.length → x3.length = x0.length → d < k → laws_toByteS.l0 k x0 x3 i = some (x3.take i ++ x0.drop i) := by
  induction d with
  | zero =>
    intro k i x3 hd hi h3 hk
    obtain ⟨k, rfl⟩ : ∃ m, k = m + 1 := ⟨k - 1, by omega⟩
    simp only [laws_toByteS.l0]
    rw [if_neg (by omega), List.take_of_length_le (by omega), List.drop_of_length_le (by omega), List.append_nil]
  | succ d ih =>
    intro k i x3 hd hi h3 hk
    obtain ⟨k, rfl⟩ : ∃ m, k = m + 1 := ⟨k - 1, by omega⟩
    simp only [laws_toByteS.l0]
    rw [if_pos (by omega), if_pos (by omega), if_pos (by omega), w64 (by omega) (by omega)]
    have e := ih k (i + 1) (x3.set i (rd x0 i)) (by omega) (by omega) (by simpa using h3) (by omega)
    rw [Int.toNat_natCast]
    rw [show ((i : Int) + 1) = ((i + 1 : Nat) : Int) from rfl, e]
    congr 1
    have hlt : i < x0.length := by omega
    rw [List.take_succ_eq_append_getElem (by simp; omega), List.getElem_set_self, List.take_set_of_le (by omega), rd_nat hlt, List.append_assoc, List.singleton_append, ← List.drop_eq_getElem_cons hlt]
theorem toByteS_ev (l : List Int) (hl : l.length ≤ 281474976710656) : Ev (fun k => laws_toByteS.f k l) l :=
  ⟨l.length + 1, fun k hk => by
    show laws_toByteS.f k l = some l
    unfold laws_toByteS.f
    rw [if_pos (by omega), if_pos (by omega)]
    have := toByteS_l0 l hl l.length k 0 (List.replicate ((l.length : Int)).toNat 0) (by omega) (by omega) (by simp) (by omega)
    simpa using this⟩
theorem eqByteS_l0 (x0 x1 : List Int) (hl : x0.length = x1.length) (hm : x0.length ≤ 281474976710656) (d : Nat) : ∀ (k i : Nat), x0.length - i = d → i ≤ x0.length → d < k → laws_eqByteS.l0 k x0 x1 i = some (decide (x0.drop i = x1.drop i)) := by
  induction d with
  | zero =>
    intro k i hd hi hk
    obtain ⟨k, rfl⟩ : ∃ m, k = m + 1 := ⟨k - 1, by omega⟩
    simp only [laws_eqByteS.l0]
    rw [if_neg (by omega), List.drop_of_length_le (by omega), List.drop_of_length_le (by omega)]; simp
  | succ d ih =>
    intro k i hd hi hk
    obtain ⟨k, rfl⟩ : ∃ m, k = m + 1 := ⟨k - 1, by omega⟩
    simp only [laws_eqByteS.l0]
    have h0 : i < x0.length := by omega
    have h1 : i < x1.length := by omega
    rw [if_pos (by omega), if_pos (by omega), if_pos (by omega), w64 (by omega) (by omega), rd_nat h0, rd_nat h1, List.drop_eq_getElem_cons h0, List.drop_eq_getElem_cons h1]
    have e := ih k (i + 1) (by omega) (by omega) (by omega)
    rw [show ((i : Int) + 1) = ((i + 1 : Nat) : Int) from rfl, e]
    by_cases hx : x0[i] = x1[i]
    · rw [if_pos hx]; congr 1; rw [decide_eq_decide, hx, List.cons.injEq]; exact ⟨fun h => ⟨rfl, h⟩, fun h => h.2⟩
    · rw [if_neg hx]; congr 1; symm; rw [decide_eq_false_iff_not, List.cons.injEq]; exact fun h => hx h.1
theorem eqByteS_ev (a b : List Int) (hl : a.length ≤ 281474976710656) : Ev (fun k => laws_eqByteS.f k a b) (decide (a = b)) :=
  ⟨a.length + 1, fun k hk => by
    show laws_eqByteS.f k a b = _
    unfold laws_eqByteS.f
    by_cases h : a.length = b.length
    · rw [if_pos (by omega)]
      have := eqByteS_l0 a b h hl a.length k 0 (by omega) (by omega) (by omega)
      simpa using this
    · rw [if_neg (by omega)]
      have : a ≠ b := fun e => h (by rw [e])
      simp [this]⟩
theorem eqByteS_refl (a : List Int) (hl : a.length ≤ 281474976710656) : Ev (fun k => laws_eqByteS.f k a a) true := by
  have := eqByteS_ev a a hl
  simpa using this
def markL : Nat → Int → List Int
  | 0, _ => []
  | n + 1, k => k % 256 :: markL n (k + 1)
theorem markL_len : ∀ (n : Nat) (k : Int), (markL n k).length = n
  | 0, _ => rfl
  | n + 1, k => by simp [markL, markL_len n]
theorem markByteS_l0 (d : Nat) : ∀ (k i : Nat) (c : Int) (x0 : List Int), x0.length - i = d → i ≤ x0.length → x0.length ≤ 281474976710656 → 0 ≤ c → c + d ≤ 9000000000000000000 → d < k → laws_markByteS.l0 k x0 c i = some (c + d, x0.take i ++ markL d c) := by
  induction d with
  | zero =>
    intro k i c x0 hd hi hl hc hc2 hk
    obtain ⟨k, rfl⟩ : ∃ m, k = m + 1 := ⟨k - 1, by omega⟩
    simp only [laws_markByteS.l0]
    rw [if_neg (by omega), List.take_of_length_le (by omega)]; simp [markL]
  | succ d ih =>
    intro k i c x0 hd hi hl hc hc2 hk
    obtain ⟨k, rfl⟩ : ∃ m, k = m + 1 := ⟨k - 1, by omega⟩
    simp only [laws_markByteS.l0]
    rw [if_pos (by omega), if_pos (by omega), w64 (by omega) (by omega), w64 (by omega) (by omega), Int.toNat_natCast]
    have e := ih k (i + 1) (c + 1) (x0.set i (c % 256)) (by simp; omega) (by simp; omega) (by simpa using hl) (by omega) (by omega) (by omega)
    rw [show ((i : Int) + 1) = ((i + 1 : Nat) : Int) from rfl, e]
    have hlt : i < x0.length := by omega
    rw [List.take_succ_eq_append_getElem (by simp; omega), List.getElem_set_self, List.take_set_of_le (by omega), List.append_assoc, List.singleton_append, markL]
    congr 2; omega
theorem markByteS_ev (l : List Int) (c : Int) (hl : l.length ≤ 281474976710656) (hc : 0 ≤ c) (hc2 : c ≤ 8000000000000000000) : Ev (fun k => laws_markByteS.f k l c) (c + l.length, markL l.length c) :=
  ⟨l.length + 1, fun k hk => by
    have := markByteS_l0 l.length k 0 c l (by omega) (by omega) hl hc (by omega) (by omega)
    simpa [laws_markByteS.f] using this⟩
theorem heldByteS_l0 (n : Nat) : ∀ (k i : Nat) (c : Int) (x0 : List Int), x0.drop i = markL n c → i ≤ x0.length → x0.length ≤ 281474976710656 → 0 ≤ c → c + n ≤ 9000000000000000000 → n < k → laws_heldByteS.l0 k x0 c i = some (c + n) := by
  induction n with
  | zero =>
    intro k i c x0 hd hi hl hc hc2 hk
    obtain ⟨k, rfl⟩ : ∃ m, k = m + 1 := ⟨k - 1, by omega⟩
    have hlen := congrArg List.length hd
    rw [List.length_drop, markL_len] at hlen
    simp only [laws_heldByteS.l0]
    rw [if_neg (by omega)]; simp
  | succ n ih =>
    intro k i c x0 hd hi hl hc hc2 hk
    obtain ⟨k, rfl⟩ : ∃ m, k = m + 1 := ⟨k - 1, by omega⟩
    have hlen := congrArg List.length hd
    rw [List.length_drop, markL_len] at hlen
    have hlt : i < x0.length := by omega
    rw [List.drop_eq_getElem_cons hlt, markL] at hd
    injection hd with h1 h2
    simp only [laws_heldByteS.l0]
    rw [if_pos (by omega), if_pos (by omega), rd_nat hlt, if_pos h1, w64 (by omega) (by omega), w64 (by omega) (by omega), show ((i : Int) + 1) = ((i + 1 : Nat) : Int) from rfl, ih k (i + 1) (c + 1) x0 h2 (by omega) hl (by omega) (by omega) (by omega)]
    congr 1; omega
theorem heldByteS_ev (n : Nat) (c : Int) (hl : n ≤ 281474976710656) (hc : 0 ≤ c) (hc2 : c ≤ 8000000000000000000) : Ev (fun k => laws_heldByteS.f k (markL n c) c) (c + n) :=
  ⟨n + 1, fun k hk => by
    have := heldByteS_l0 n k 0 c (markL n c) (by simp) (by omega) (by rw [markL_len]; exact hl) hc (by omega) (by omega)
    simpa [laws_heldByteS.f] using this⟩
def prtN (s : ByteArray) : Nat → Bool
  | 0 => true
  | d + 1 => if bt s ((s.size - (d + 1) : Nat) : Int) < 32 then false else if bt s ((s.size - (d + 1) : Nat) : Int) > 126 then false else prtN s d
def prt (s : ByteArray) : Bool := prtN s s.size
theorem l1Printed_l0 (s : ByteArray) (hs : s.size ≤ 9223372036854775807) (d : Nat) : ∀ (k i : Nat), s.size - i = d → i ≤ s.size → d < k → spec_l1Printed.l0 k s i = some (prtN s d) := by
  induction d with
  | zero =>
    intro k i hd hi hk
    obtain ⟨k, rfl⟩ : ∃ m, k = m + 1 := ⟨k - 1, by omega⟩
    simp only [spec_l1Printed.l0]
    rw [if_neg (by omega)]; rfl
  | succ d ih =>
    intro k i hd hi hk
    obtain ⟨k, rfl⟩ : ∃ m, k = m + 1 := ⟨k - 1, by omega⟩
    have e0 : s.size - (d + 1) = i := by omega
    simp only [spec_l1Printed.l0, prtN, e0]
    rw [if_pos (by omega), if_pos (by omega), w64 (by omega) (by omega), show ((i : Int) + 1) = ((i + 1 : Nat) : Int) from rfl, ih k (i + 1) (by omega) (by omega) (by omega)]
    split
    · rfl
    · split <;> rfl
theorem l1Printed_eq (s : ByteArray) (hs : s.size ≤ 9223372036854775807) (k : Nat) (hk : s.size < k) : spec_l1Printed.f k s = some (prt s) :=
  l1Printed_l0 s hs s.size k 0 (by omega) (by omega) hk
theorem yprinted_l0 (s : ByteArray) (hs : s.size ≤ 9223372036854775807) (d : Nat) : ∀ (k i : Nat), s.size - i = d → i ≤ s.size → d < k → impl_yprinted.l0 k s (s.size : Int) i = some (prtN s d) := by
  induction d with
  | zero =>
    intro k i hd hi hk
    obtain ⟨k, rfl⟩ : ∃ m, k = m + 1 := ⟨k - 1, by omega⟩
    simp only [impl_yprinted.l0]
    rw [if_neg (by omega)]; rfl
  | succ d ih =>
    intro k i hd hi hk
    obtain ⟨k, rfl⟩ : ∃ m, k = m + 1 := ⟨k - 1, by omega⟩
    have e0 : s.size - (d + 1) = i := by omega
    simp only [impl_yprinted.l0, prtN, e0]
    rw [if_pos (by omega), if_pos (by omega), if_pos (by omega), w64 (by omega) (by omega), show ((i : Int) + 1) = ((i + 1 : Nat) : Int) from rfl, ih k (i + 1) (by omega) (by omega) (by omega)]
    split
    · rfl
    · split <;> rfl
theorem yprinted_eq (s : ByteArray) (lo hi : Int) (hs : s.size ≤ 9223372036854775807) (k : Nat) (hk : s.size + 1 < k) : impl_yprinted.f k s lo hi = some (decide (lo ≤ s.size) && decide ((s.size : Int) ≤ hi) && prt s) := by
  obtain ⟨k, rfl⟩ : ∃ m, k = m + 1 := ⟨k - 1, by omega⟩
  unfold impl_yprinted.f
  have e := yprinted_l0 s hs s.size k 0 (by omega) (by omega) (by omega)
  by_cases h1 : (s.size : Int) < lo
  · rw [if_pos h1]
    simp only [impl_yprinted.j0, if_true]
    simp; omega
  · rw [if_neg h1]
    have h1' : decide (lo ≤ (s.size : Int)) = true := decide_eq_true (by omega)
    by_cases h2 : (s.size : Int) ≤ hi
    · have h2' : decide ((s.size : Int) > hi) = false := decide_eq_false (by omega)
      have h2'' : decide ((s.size : Int) ≤ hi) = true := decide_eq_true h2
      rw [h1', h2', h2'']
      simp only [impl_yprinted.j0, Bool.false_eq_true, if_false, Bool.true_and]
      exact e
    · have h2' : decide ((s.size : Int) > hi) = true := decide_eq_true (by omega)
      have h2'' : decide ((s.size : Int) ≤ hi) = false := decide_eq_false h2
      rw [h1', h2', h2'']
      simp [impl_yprinted.j0]
def goodEntry (t : Int) (who what : ByteArray) (salt cover : List Int) : Bool :=
  if t < 0 then false else if t > 100000000000 then false else if (who.size : Int) > 60 then false else if prt who = false then false else
  if cover.length = 0 then (decide ((what.size : Int) ≤ 200) && prt what && decide ((salt.length : Int) ≤ 20))
  else decide (cover.length = 16) && decide (what.toList = ([] : List UInt8)) && decide (salt.length = 0)
theorem specGood_eq (t : Int) (who what : ByteArray) (salt cover : List Int) (h1 : okS who) (h2 : okS what) (k : Nat) (hk : who.size + what.size + 1 < k) : spec_GoodLogEntry.f k t who what salt cover = some (goodEntry t who what salt cover) := by
  unfold okS at h1 h2
  obtain ⟨k, rfl⟩ : ∃ m, k = m + 1 := ⟨k - 1, by omega⟩
  unfold spec_GoodLogEntry.f goodEntry
  have bad : spec_GoodLogEntry.j0 (k + 1) true t who what salt cover = some false := by simp [spec_GoodLogEntry.j0]
  rw [bad]
  split; · rfl
  split; · rfl
  split; · rfl
  rw [l1Printed_eq who h1 (k + 1) (by omega)]
  simp only [Option.bind_some]
  cases prt who with
  | false => exact bad
  | true =>
    simp only [Bool.not_true, spec_GoodLogEntry.j0, Bool.false_eq_true, if_false, spec_l21Open.f, Option.bind_some, beq_iff_eq, reduceCtorEq]
    by_cases hc : cover.length = 0
    · rw [if_pos (by omega), if_pos hc]
      by_cases hw : (what.size : Int) ≤ 200
      · rw [if_pos hw, l1Printed_eq what h2 k (by omega)]
        simp only [Option.bind_some]
        cases prt what <;> simp [hw]
      · rw [if_neg hw]; simp [hw]
    · rw [if_neg (by omega), if_neg hc]
      by_cases hc2 : cover.length = 16
      · rw [if_pos (by omega)]
        by_cases hw : what.toList = []
        · rw [if_pos hw]
          simp only [hc2, hw, decide_true, Bool.true_and, Option.some.injEq]
          rw [Bool.eq_iff_iff]; simp
        · rw [if_neg hw]; simp [hw]
      · rw [if_neg (by omega)]; simp [hc2]
theorem implGood_eq (t : Int) (who what : ByteArray) (salt cover : List Int) (h1 : okS who) (h2 : okS what) (k : Nat) (hk : who.size + what.size + 3 < k) : impl_GoodLogEntry.f k t who what salt cover = some (goodEntry t who what salt cover) := by
  unfold okS at h1 h2
  obtain ⟨k, rfl⟩ : ∃ m, k = m + 1 := ⟨k - 1, by omega⟩
  unfold impl_GoodLogEntry.f goodEntry
  have bad : impl_GoodLogEntry.j0 (k + 1) true t who what salt cover = some false := by simp [impl_GoodLogEntry.j0]
  rw [bad]
  split; · rfl
  split; · rfl
  rw [yprinted_eq who 0 60 h1 (k + 1) (by omega)]
  simp only [Option.bind_some]
  by_cases h60 : (who.size : Int) > 60
  · rw [if_pos h60]
    have : decide ((who.size : Int) ≤ 60) = false := decide_eq_false (by omega)
    rw [this]
    simpa using bad
  rw [if_neg h60]
  have e60 : decide ((who.size : Int) ≤ 60) = true := decide_eq_true (by omega)
  have e0 : decide ((0 : Int) ≤ (who.size : Int)) = true := decide_eq_true (by omega)
  rw [e60, e0]
  simp only [Bool.true_and]
  cases prt who with
  | false => exact bad
  | true =>
    simp only [Bool.not_true, impl_GoodLogEntry.j0, Bool.false_eq_true, if_false, reduceCtorEq]
    by_cases hc : cover.length = 0
    · rw [if_pos (by omega), if_pos hc, yprinted_eq what 0 200 h2 k (by omega)]
      simp only [Option.bind_some]
      have e0 : decide ((0 : Int) ≤ (what.size : Int)) = true := decide_eq_true (by omega)
      rw [e0, Bool.true_and]
      cases hh : (decide ((what.size : Int) ≤ 200) && prt what) <;> simp
    · rw [if_neg (by omega), if_neg hc]
      by_cases hc2 : cover.length = 16
      · rw [if_pos (by omega)]
        by_cases hw : what.toList = []
        · rw [if_pos hw]
          simp only [hc2, hw, decide_true, Bool.true_and, Option.some.injEq]
          rw [Bool.eq_iff_iff]; simp
        · rw [if_neg hw]; simp [hw]
      · rw [if_neg (by omega)]; simp [hc2]
theorem toLogEntry_ev (t : Int) (who what : ByteArray) (salt cover : List Int) (h3 : salt.length ≤ 1048576) (h4 : cover.length ≤ 1048576) : Ev (fun k => laws_toLogEntry.f k t who what salt cover) (t, who, what, salt, cover) := by
  refine Ev.congr (f := fun k => (laws_toByteS.f k salt).bind fun t104 => ((laws_toByteS.f k cover).bind fun t107 => (some (t, who, what, t104, t107)))) (fun k => rfl) ?_
  refine Ev.bind (toByteS_ev salt (by omega)) ?_
  exact Ev.bind (toByteS_ev cover (by omega)) (Ev.now _)
theorem eqLogEntry_refl (t : Int) (who what : ByteArray) (salt cover : List Int) (h3 : salt.length ≤ 1048576) (h4 : cover.length ≤ 1048576) : Ev (fun k => laws_eqLogEntry.f k t who what salt cover t who what salt cover) true := by
  refine Ev.congr (f := fun k => (laws_eqByteS.f k salt salt).bind fun t103 => (if t103 = true then ((laws_eqByteS.f k cover cover).bind fun t104 => (if t104 = true then (some true) else (some false))) else (some false))) (fun k => by simp [laws_eqLogEntry.f]) ?_
  refine Ev.bind (eqByteS_refl salt (by omega)) ?_
  refine Ev.congr (fun k => if_pos rfl) ?_
  refine Ev.bind (eqByteS_refl cover (by omega)) ?_
  exact Ev.congr (fun k => if_pos rfl) (Ev.now _)
def inP (a : List Int) : Prop := a.length = 4 ∧ ∀ j, j < 4 → 0 ≤ a.getD j 0 ∧ a.getD j 0 < 2147483579
theorem inP_start : inP [11, 22, 33, 44] := ⟨rfl, by decide⟩
theorem inP_mix {a : List Int} (h : inP a) (x : Int) (hx : 0 ≤ x) : inP (dgMix a x) := ⟨by rw [dgMix, mix_len, h.1], mix_bd a x hx h.1 h.2 4 (by omega)⟩
theorem dgAll_cons (a : List Int) (x : Int) (l : List Int) : dgAll a (x :: l) = dgAll (dgMix a x) l := rfl
theorem mt_at (i : Nat) (h : i < 4) : rd [1103515245, 69069, 1664525, 22695477] (i : Int) = mulT.getD i 0 := by
  match i, h with
  | 0, _ => rfl
  | 1, _ => rfl
  | 2, _ => rfl
  | 3, _ => rfl
theorem rd_getD (l : List Int) (i : Nat) : rd l (i : Int) = l.getD i 0 := by simp [rd]
theorem specMix_step (l : List Int) (h : inP l) (x : Int) (hx : 0 ≤ x ∧ x ≤ 255) (i : Nat) (hi : i < 4) (k : Nat) :
    spec_l2Mix.l0 (k + 1) (mixN l x i) x [1103515245, 69069, 1664525, 22695477] i = spec_l2Mix.l0 k (mixN l x (i + 1)) x [1103515245, 69069, 1664525, 22695477] ((i + 1 : Nat) : Int) := by
  have hlen : (mixN l x i).length = 4 := by rw [mix_len, h.1]
  have b1 := mix_bd l x hx.1 h.1 h.2 i (by omega) i hi
  have b2 := mix_bd l x hx.1 h.1 h.2 i (by omega) ((i + 1) % 4) (by omega)
  have b3 := mulOk i hi
  simp only [spec_l2Mix.l0]
  rw [w64 (n := (i : Int) + 1) (by omega) (by omega)]
  have e6 : Int.tmod ((i : Int) + 1) 4 = ((i + 1) % 4 : Nat) := by rw [Int.tmod_eq_emod_of_nonneg (by omega)]; omega
  rw [e6, mt_at i hi, rd_getD, rd_getD]
  obtain ⟨p1, e1⟩ : ∃ p, p = (mixN l x i).getD i 0 := ⟨_, rfl⟩
  obtain ⟨p2, e2⟩ : ∃ p, p = (mixN l x i).getD ((i + 1) % 4) 0 := ⟨_, rfl⟩
  obtain ⟨p3, e3⟩ : ∃ p, p = mulT.getD i 0 := ⟨_, rfl⟩
  have e5 : mixN l x (i + 1) = (mixN l x i).set i ((p1 * p3 + x + 1 + p2) % 2147483579) := by rw [e1, e2, e3]; rfl
  rw [e5, ← e1, ← e2, ← e3]
  rw [← e1] at b1; rw [← e2] at b2; rw [← e3] at b3
  have b4 := prod_bd b1.1 b1.2 b3.1 b3.2
  rw [if_pos (by omega), if_pos (by omega), if_pos (by omega), if_pos (by simp; omega), if_pos (by omega), if_pos (by omega), w64 (n := p1 * p3) (by omega) (by omega), w64 (n := p1 * p3 + x) (by omega) (by omega), w64 (n := p1 * p3 + x + 1) (by omega) (by omega), w64 (by omega) (by omega), Int.tmod_eq_emod_of_nonneg (by omega), Int.toNat_natCast]
  rfl
theorem specMix_eq (l : List Int) (h : inP l) (x : Int) (hx : 0 ≤ x ∧ x ≤ 255) (k : Nat) (hk : 5 ≤ k) : spec_l2Mix.f k l x = some (dgMix l x) := by
  obtain ⟨k, rfl⟩ : ∃ m, k = m + 5 := ⟨k - 5, by omega⟩
  unfold spec_l2Mix.f
  have e0 := specMix_step l h x hx 0 (by omega) (k + 4)
  have e1 := specMix_step l h x hx 1 (by omega) (k + 3)
  have e2 := specMix_step l h x hx 2 (by omega) (k + 2)
  have e3 := specMix_step l h x hx 3 (by omega) (k + 1)
  have e4 : spec_l2Mix.l0 (k + 1) (mixN l x 4) x [1103515245, 69069, 1664525, 22695477] ((3 + 1 : Nat) : Int) = some (mixN l x 4) := by
    simp only [spec_l2Mix.l0]; rw [if_neg (by omega)]
  exact e0.trans (e1.trans (e2.trans (e3.trans e4)))
theorem tm256 (n : Int) (h : 0 ≤ n) : Int.tmod n 256 % 256 = n % 256 := by rw [Int.tmod_eq_emod_of_nonneg h]; omega
theorem td256 (n : Int) (h : 0 ≤ n) (h2 : n ≤ 9223372036854775807) : wrap64 (Int.tdiv n 256) = n / 256 := by
  rw [Int.tdiv_eq_ediv_of_nonneg h, w64 (by omega) (by omega)]
theorem specBytes_eq (n : Int) (h : 0 ≤ n) (h2 : n ≤ 9223372036854775807) (k : Nat) (hk : 5 ≤ k) : spec_l2Bytes.f k n = some (yb n) := by
  obtain ⟨k, rfl⟩ : ∃ m, k = m + 5 := ⟨k - 5, by omega⟩
  unfold spec_l2Bytes.f
  rw [if_pos (by omega)]
  simp only [Option.bind_some, List.length_replicate]
  simp only [spec_l2Bytes.l0]
  have a1 := td256 n h h2
  have a2 := td256 (n / 256) (by omega) (by omega)
  have a3 := td256 (n / 256 / 256) (by omega) (by omega)
  have w1 : wrap64 ((0 : Int) + 1) = 1 := by unfold wrap64; omega
  have w2 : wrap64 ((1 : Int) + 1) = 2 := by unfold wrap64; omega
  have w3 : wrap64 ((2 : Int) + 1) = 3 := by unfold wrap64; omega
  have w4 : wrap64 ((3 : Int) + 1) = 4 := by unfold wrap64; omega
  rw [w1, w2, w3, w4, a1, a2, a3, tm256 n h, tm256 _ (by omega), tm256 _ (by omega), tm256 _ (by omega)]
  simp [yb, List.replicate]
  omega
theorem specDig_l3 (a : List Int) (h : inP a) : ∀ (k : Nat), 10 ≤ k → spec_l2Digest.l3 k [] a (a.length : Int) 0 = some (a.flatMap yb) := by
  intro k hk
  obtain ⟨k, rfl⟩ : ∃ m, k = m + 10 := ⟨k - 10, by omega⟩
  obtain ⟨hl, hb⟩ := h
  match a, hl with
  | [b0, b1, b2, b3], _ =>
    have h0 := hb 0 (by omega)
    have h1 := hb 1 (by omega)
    have h2 := hb 2 (by omega)
    have h3 := hb 3 (by omega)
    simp only [List.getD_cons_zero, List.getD_cons_succ] at h0 h1 h2 h3
    have w1 : wrap64 ((0 : Int) + 1) = 1 := by unfold wrap64; omega
    have w2 : wrap64 ((1 : Int) + 1) = 2 := by unfold wrap64; omega
    have w3 : wrap64 ((2 : Int) + 1) = 3 := by unfold wrap64; omega
    have w4 : wrap64 ((3 : Int) + 1) = 4 := by unfold wrap64; omega
    have r0 : rd [b0, b1, b2, b3] 0 = b0 := rfl
    have r1 : rd [b0, b1, b2, b3] 1 = b1 := rfl
    have r2 : rd [b0, b1, b2, b3] 2 = b2 := rfl
    have r3 : rd [b0, b1, b2, b3] 3 = b3 := rfl
    simp only [spec_l2Digest.l3, w1, w2, w3, w4, r0, r1, r2, r3]
    rw [specBytes_eq b0 (by omega) (by omega) _ (by omega), specBytes_eq b1 (by omega) (by omega) _ (by omega), specBytes_eq b2 (by omega) (by omega) _ (by omega), specBytes_eq b3 (by omega) (by omega) _ (by omega)]
    simp [yb]
theorem specDig_l2 (d : Nat) : ∀ (a : List Int) (k i : Nat), inP a → i + d = 8 → d + 12 ≤ k → spec_l2Digest.l2 k a i = some ((dgAll a (List.replicate d 0)).flatMap yb) := by
  induction d with
  | zero =>
    intro a k i h hi hk
    obtain ⟨k, rfl⟩ : ∃ m, k = m + 1 := ⟨k - 1, by omega⟩
    simp only [spec_l2Digest.l2]
    rw [if_neg (by omega), specDig_l3 a h k (by omega)]; rfl
  | succ d ih =>
    intro a k i h hi hk
    obtain ⟨k, rfl⟩ : ∃ m, k = m + 1 := ⟨k - 1, by omega⟩
    simp only [spec_l2Digest.l2]
    rw [if_pos (by omega), specMix_eq a h 0 (by omega) k (by omega)]
    simp only [Option.bind_some]
    rw [w64 (by omega) (by omega), show ((i : Int) + 1) = ((i + 1 : Nat) : Int) from rfl, ih (dgMix a 0) k (i + 1) (inP_mix h 0 (by omega)) (by omega) (by omega)]
    rfl
theorem wbyte {x : Int} (h : 0 ≤ x ∧ x ≤ 255) : wrap64 x = x := w64 (by omega) (by omega)
theorem drop_rd {l : List Int} {i : Nat} (h : i < l.length) : l.drop i = rd l i :: l.drop (i + 1) := by rw [List.drop_eq_getElem_cons h, rd_nat h]
theorem specDig_l1 (xs : List Int) (hx : isBytes xs) (hl : xs.length ≤ 1000000000) (d : Nat) : ∀ (a : List Int) (k i : Nat), inP a → i + d = xs.length → d + 24 ≤ k →
    spec_l2Digest.l1 k a xs (xs.length : Int) i = some ((dgAll (dgAll a (xs.drop i)) (List.replicate 8 0)).flatMap yb) := by
  induction d with
  | zero =>
    intro a k i h hi hk
    obtain ⟨k, rfl⟩ : ∃ m, k = m + 1 := ⟨k - 1, by omega⟩
    simp only [spec_l2Digest.l1]
    rw [if_neg (by omega), List.drop_of_length_le (by omega)]
    exact specDig_l2 8 a k 0 h (by omega) (by omega)
  | succ d ih =>
    intro a k i h hi hk
    obtain ⟨k, rfl⟩ : ∃ m, k = m + 1 := ⟨k - 1, by omega⟩
    have hlt : i < xs.length := by omega
    have hb := hx (rd xs i) (rd_mem hlt)
    simp only [spec_l2Digest.l1]
    rw [if_pos (by omega), if_pos (by omega), if_pos (by omega), wbyte hb, specMix_eq a h _ hb k (by omega)]
    simp only [Option.bind_some]
    rw [w64 (by omega) (by omega), show ((i : Int) + 1) = ((i + 1 : Nat) : Int) from rfl, ih _ k (i + 1) (inP_mix h _ hb.1) (by omega) (by omega), drop_rd hlt, dgAll_cons]
theorem specDig_l0 (xs ys : List Int) (hx : isBytes xs) (hl : xs.length ≤ 1000000000) (hly : ys.length ≤ 1000000000) (d : Nat) : ∀ (a : List Int) (k i : Nat), inP a → i + d = xs.length → d + 40 ≤ k →
    spec_l2Digest.l0 k ys a xs (xs.length : Int) i = some ((dgAll (dgAll (dgAll a (xs.drop i)) (yb ys.length)) (List.replicate 8 0)).flatMap yb) := by
  induction d with
  | zero =>
    intro a k i h hi hk
    obtain ⟨k, rfl⟩ : ∃ m, k = m + 1 := ⟨k - 1, by omega⟩
    simp only [spec_l2Digest.l0]
    rw [if_neg (by omega), List.drop_of_length_le (by omega), specBytes_eq _ (by omega) (by omega) k (by omega)]
    exact specDig_l1 (yb ys.length) (yb_bytes _) (by rw [yb_len]; omega) 4 a k 0 h (by rw [yb_len]) (by omega)
  | succ d ih =>
    intro a k i h hi hk
    obtain ⟨k, rfl⟩ : ∃ m, k = m + 1 := ⟨k - 1, by omega⟩
    have hlt : i < xs.length := by omega
    have hb := hx (rd xs i) (rd_mem hlt)
    simp only [spec_l2Digest.l0]
    rw [if_pos (by omega), if_pos (by omega), if_pos (by omega), wbyte hb, specMix_eq a h _ hb k (by omega)]
    simp only [Option.bind_some]
    rw [w64 (by omega) (by omega), show ((i : Int) + 1) = ((i + 1 : Nat) : Int) from rfl, ih _ k (i + 1) (inP_mix h _ hb.1) (by omega) (by omega), drop_rd hlt, dgAll_cons]
theorem specDigest_eq (l : List Int) (h : isBytes l) (hl : l.length ≤ 1000000000) (k : Nat) (hk : l.length + 40 ≤ k) : spec_l2Digest.f k l = some (dg l) := by
  have := specDig_l0 l l h hl hl l.length [11, 22, 33, 44] k 0 inP_start (by omega) hk
  simpa [spec_l2Digest.f, dg, dgS] using this
theorem specDigest_ev (l : List Int) (h : isBytes l) (hl : l.length ≤ 1000000000) : Ev (fun k => spec_l2Digest.f k l) (dg l) := ⟨_, fun k hk => specDigest_eq l h hl k hk⟩
theorem isBytes_flatMap_yb (a : List Int) : isBytes (a.flatMap yb) := by
  intro x hx
  obtain ⟨n, _, hn⟩ := List.mem_flatMap.1 hx
  exact yb_bytes n x hn
theorem dg_bytes (l : List Int) : isBytes (dg l) := isBytes_flatMap_yb _
theorem dgAll_len : ∀ (l a : List Int), (dgAll a l).length = a.length
  | [], _ => rfl
  | x :: l, a => by rw [dgAll_cons, dgAll_len l, dgMix, mix_len]
theorem dg_len (l : List Int) : (dg l).length = 16 := by
  have h : (dgS l).length = 4 := by simp [dgS, dgAll_len]
  unfold dg
  match dgS l, h with
  | [b0, b1, b2, b3], _ => rfl
theorem isBytes_append {a b : List Int} (h : isBytes a) (h2 : isBytes b) : isBytes (a ++ b) := fun x hx => (List.mem_append.1 hx).elim (h x) (h2 x)
theorem implDigest_eq (l : List Int) (h : isBytes l) (hl : l.length ≤ 20000) : impl_Digest.f l = some (dg l) := by
  unfold impl_Digest.f; rw [if_pos h, if_neg (by omega)]
theorem isBytes_okL {l : List Int} (h : okL okB l) : isBytes l := fun x hx => h.2 x hx
theorem bytesOf_isBytes (s : ByteArray) : isBytes (bytesOf s) := by
  intro x hx
  simp only [bytesOf, List.mem_map] at hx
  obtain ⟨b, _, rfl⟩ := hx
  have := b.toNat_lt
  omega
def macL (key data : List Int) : List Int := dg (dg key ++ dg data)
theorem specTwo_ev (a b : List Int) (ha : isBytes a) (hb : isBytes b) (la : a.length ≤ 100000000) (lb : b.length ≤ 100000000) : Ev (fun k => spec_l2Two.f k a b) (dg (a ++ b)) := by
  simp only [spec_l2Two.f, List.length_nil, Nat.zero_add, List.nil_append, if_pos (show a.length < 140737488355328 by omega), Option.bind_some, if_pos (show a.length + b.length < 140737488355328 by omega)]
  exact Ev.bind (specDigest_ev _ (isBytes_append ha hb) (by simp; omega)) (Ev.now _)
theorem specMac_ev (a b : List Int) (ha : isBytes a) (hb : isBytes b) (la : a.length ≤ 100000000) (lb : b.length ≤ 100000000) : Ev (fun k => spec_l2Mac.f k a b) (macL a b) := by
  simp only [spec_l2Mac.f]
  refine Ev.bind (specDigest_ev a ha (by omega)) ?_
  refine Ev.bind (specDigest_ev b hb (by omega)) ?_
  exact Ev.bind (specTwo_ev _ _ (dg_bytes a) (dg_bytes b) (by rw [dg_len]; omega) (by rw [dg_len]; omega)) (Ev.now _)
theorem implMac_ev (a b : List Int) (ha : isBytes a) (hb : isBytes b) (la : a.length ≤ 20000) (lb : b.length ≤ 20000) : Ev (fun k => impl_Mac.f k a b) (macL a b) := by
  refine ⟨1, fun k hk => ?_⟩
  obtain ⟨k, rfl⟩ : ∃ m, k = m + 1 := ⟨k - 1, by omega⟩
  show impl_Mac.f (k + 1) a b = _
  unfold impl_Mac.f
  rw [if_neg (by omega), decide_eq_false (by omega)]
  simp only [impl_Mac.j0, Bool.false_eq_true, if_false]
  rw [implDigest_eq a ha la]
  simp only [Option.bind_some]
  rw [implDigest_eq b hb lb]
  simp only [Option.bind_some]
  rw [if_pos (by rw [dg_len, dg_len]; omega), implDigest_eq _ (isBytes_append (dg_bytes a) (dg_bytes b)) (by rw [List.length_append, dg_len, dg_len]; omega)]
  rfl
theorem bytesOfS_eq (s : ByteArray) (h : s.size ≤ 9223372036854775807) : bytesOfS.f s = some (bytesOf s) := by unfold bytesOfS.f; rw [if_pos h]
def coverL (what : ByteArray) (salt cover : List Int) : List Int := if cover.length = 0 then macL salt (bytesOf what) else cover
theorem good_open {t : Int} {who what : ByteArray} {salt cover : List Int} (h : goodEntry t who what salt cover = true) (hc : cover.length = 0) : what.size ≤ 200 ∧ salt.length ≤ 20 := by
  unfold goodEntry at h
  split at h; · cases h
  split at h; · cases h
  split at h; · cases h
  split at h; · cases h
  simp only [Bool.and_eq_true, decide_eq_true_eq] at h
  omega
theorem good_who {t : Int} {who what : ByteArray} {salt cover : List Int} (h : goodEntry t who what salt cover = true) : 0 ≤ t ∧ t ≤ 100000000000 ∧ who.size ≤ 60 := by
  unfold goodEntry at h
  split at h; · cases h
  split at h; · cases h
  split at h; · cases h
  omega
theorem good_closed {t : Int} {who what : ByteArray} {salt cover : List Int} (h : goodEntry t who what salt cover = true) (hc : cover.length ≠ 0) : cover.length = 16 := by
  unfold goodEntry at h
  split at h; · cases h
  split at h; · cases h
  split at h; · cases h
  split at h; · cases h
  simp only [Bool.and_eq_true, decide_eq_true_eq] at h
  exact h.1.1
theorem coverL_len {t : Int} {who what : ByteArray} {salt cover : List Int} (h : goodEntry t who what salt cover = true) : (coverL what salt cover).length = 16 := by
  unfold coverL
  split
  · rw [macL, dg_len]
  · exact good_closed h (by assumption)
theorem coverL_bytes (what : ByteArray) (salt : List Int) {cover : List Int} (h : isBytes cover) : isBytes (coverL what salt cover) := by
  unfold coverL
  split
  · exact dg_bytes _
  · exact h
theorem specCover_ev (t : Int) (who what : ByteArray) (salt cover : List Int) (hg : goodEntry t who what salt cover = true) (hs : isBytes salt) : Ev (fun k => spec_l21Cover.f k t who what salt cover) (coverL what salt cover) := by
  unfold coverL
  by_cases hc : cover.length = 0
  · obtain ⟨h1, h2⟩ := good_open hg hc
    simp only [spec_l21Cover.f, spec_l21Open.f, hc, Option.bind_some, bytesOfS_eq what (by omega), if_true, beq_self_eq_true, Int.natCast_zero]
    exact Ev.bind (specMac_ev salt (bytesOf what) hs (bytesOf_isBytes what) (by omega) (by rw [bytesOf_length]; omega)) (Ev.now _)
  · have h16 := good_closed hg hc
    simp only [spec_l21Cover.f, spec_l21Open.f, Option.bind_some, beq_iff_eq, List.length_nil, Nat.zero_add, List.nil_append, if_neg (show ¬ ((cover.length : Int) = 0) by omega), if_pos (show cover.length < 140737488355328 by omega), if_neg hc]
    exact Ev.now _
theorem implCoverOf_ev (t : Int) (who what : ByteArray) (salt cover : List Int) (h1 : okS who) (h2 : okS what) (hs : isBytes salt) :
    Ev (fun k => impl_CoverOf.f k t who what salt cover) (if goodEntry t who what salt cover = true then coverL what salt cover else []) := by
  simp only [impl_CoverOf.f]
  refine Ev.bind ⟨_, fun k hk => implGood_eq t who what salt cover h1 h2 k hk⟩ ?_
  by_cases hg : goodEntry t who what salt cover = true
  · simp only [if_pos hg]
    unfold coverL
    by_cases hc : cover.length = 0
    · obtain ⟨h3, h4⟩ := good_open hg hc
      simp only [if_pos hc, if_neg (show ¬ ((cover.length : Int) > 0) by omega), bytesOfS_eq what (by omega), Option.bind_some]
      exact Ev.bind (implMac_ev salt (bytesOf what) hs (bytesOf_isBytes what) (by omega) (by rw [bytesOf_length]; omega)) (Ev.now _)
    · have h16 := good_closed hg hc
      simp only [if_neg hc, if_pos (show (cover.length : Int) > 0 by omega), bytes_Clone.f, if_pos (show cover.length ≤ 140737488355328 by omega), Option.bind_some]
      exact Ev.now _
  · simp only [if_neg hg]
    exact Ev.now _
def leafL (t : Int) (who what : ByteArray) (salt cover : List Int) : List Int := dg ([0] ++ yb t ++ yb (t / 4294967296) ++ dg (bytesOf who) ++ coverL what salt cover)
theorem leafL_len (t : Int) (who what : ByteArray) (salt cover : List Int) : (leafL t who what salt cover).length = 16 := dg_len _
theorem leafL_bytes (t : Int) (who what : ByteArray) (salt cover : List Int) : isBytes (leafL t who what salt cover) := dg_bytes _
theorem yb_low (t : Int) (h0 : 0 ≤ t) : yb (Int.tmod t 4294967296) = yb t := by
  rw [Int.tmod_eq_emod_of_nonneg h0]
  simp only [yb, List.cons.injEq, and_true]
  omega
theorem high_eq (t : Int) (h0 : 0 ≤ t) (h1 : t ≤ 100000000000) : wrap64 (Int.tdiv t 4294967296) = t / 4294967296 := by
  rw [Int.tdiv_eq_ediv_of_nonneg h0]
  exact w64 (by omega) (by omega)
theorem zero_bytes : isBytes [0] := by
  intro x hx
  simp at hx
  omega
theorem leaf_parts (t : Int) (who what : ByteArray) {salt cover : List Int} (hc : isBytes cover) : isBytes ([0] ++ yb t ++ yb (t / 4294967296) ++ dg (bytesOf who) ++ coverL what salt cover) :=
  isBytes_append (isBytes_append (isBytes_append (isBytes_append zero_bytes (yb_bytes _)) (yb_bytes _)) (dg_bytes _)) (coverL_bytes what salt hc)
theorem specLeaf_ev (t : Int) (who what : ByteArray) (salt cover : List Int) (hg : goodEntry t who what salt cover = true) (hs : isBytes salt) (hc : isBytes cover) : Ev (fun k => spec_l21Leaf.f k t who what salt cover) (leafL t who what salt cover) := by
  obtain ⟨g0, g1, g2⟩ := good_who hg
  have hl := coverL_len hg
  have hd := dg_len (bytesOf who)
  have hy := fun n => yb_len n
  simp only [spec_l21Leaf.f, Option.bind_some, high_eq t g0 g1]
  have b1 : Ev (fun k => spec_l2Bytes.f k (Int.tmod t 4294967296)) (yb t) := ⟨5, fun k hk => by show spec_l2Bytes.f k (Int.tmod t 4294967296) = _; rw [specBytes_eq _ (by rw [Int.tmod_eq_emod_of_nonneg g0]; omega) (by rw [Int.tmod_eq_emod_of_nonneg g0]; omega) k hk, yb_low t g0]⟩
  refine Ev.bind b1 ?_
  simp only [if_pos (show ([0] : List Int).length + (yb t).length < 140737488355328 by rw [hy]; simp)]
  refine Ev.bind ⟨5, fun k hk => specBytes_eq (t / 4294967296) (by omega) (by omega) k hk⟩ ?_
  simp only [if_pos (show (([0] : List Int) ++ yb t).length + (yb (t / 4294967296)).length < 140737488355328 by rw [List.length_append, hy, hy]; simp), bytesOfS_eq who (by omega), Option.bind_some]
  refine Ev.bind (specDigest_ev (bytesOf who) (bytesOf_isBytes who) (by rw [bytesOf_length]; omega)) ?_
  simp only [if_pos (show (([0] : List Int) ++ yb t ++ yb (t / 4294967296)).length + (dg (bytesOf who)).length < 140737488355328 by simp only [List.length_append, hy, hd]; simp)]
  refine Ev.bind (specCover_ev t who what salt cover hg hs) ?_
  simp only [if_pos (show (([0] : List Int) ++ yb t ++ yb (t / 4294967296) ++ dg (bytesOf who)).length + (coverL what salt cover).length < 140737488355328 by simp only [List.length_append, hy, hd, hl]; simp)]
  exact Ev.bind (specDigest_ev _ (leaf_parts t who what hc) (by simp only [List.length_append, hy, hd, hl]; simp)) (Ev.now _)
theorem concat_eq (ls : List (List Int)) (h : ls.flatten.length ≤ 140737488355328) : slices_Concat_byte_byte.f ls = some ls.flatten := by
  unfold slices_Concat_byte_byte.f
  rw [if_pos h]
theorem implLeafOf_ev (t : Int) (who what : ByteArray) (salt cover : List Int) (h1 : okS who) (h2 : okS what) (hs : isBytes salt) (hc : isBytes cover) :
    Ev (fun k => impl_LeafOf.f k t who what salt cover) (if goodEntry t who what salt cover = true then leafL t who what salt cover else []) := by
  simp only [impl_LeafOf.f]
  refine Ev.bind ⟨_, fun k hk => implGood_eq t who what salt cover h1 h2 k hk⟩ ?_
  by_cases hg : goodEntry t who what salt cover = true
  · obtain ⟨g0, g1, g2⟩ := good_who hg
    have hl := coverL_len hg
    have hd := dg_len (bytesOf who)
    have hy := fun n => yb_len n
    have y1 : ∀ n, impl_ybytes.f n = some (yb n) := fun n => rfl
    have hco := implCoverOf_ev t who what salt cover h1 h2 hs
    rw [if_pos hg] at hco
    have hfl : ([[0], yb t, yb (t / 4294967296), dg (bytesOf who), coverL what salt cover] : List (List Int)).flatten = [0] ++ yb t ++ yb (t / 4294967296) ++ dg (bytesOf who) ++ coverL what salt cover := by simp
    have hcat := concat_eq [[0], yb t, yb (t / 4294967296), dg (bytesOf who), coverL what salt cover] (by rw [hfl]; simp only [List.length_append, hy, hd, hl]; simp)
    rw [hfl] at hcat
    simp only [if_pos hg, y1, Option.bind_some, bytesOfS_eq who (by omega), implDigest_eq (bytesOf who) (bytesOf_isBytes who) (by rw [bytesOf_length]; omega)]
    refine Ev.bind hco ?_
    simp only [hcat, Option.bind_some, implDigest_eq _ (leaf_parts t who what (salt := salt) hc) (by simp only [List.length_append, hy, hd, hl]; simp)]
    exact Ev.now _
  · simp only [if_neg hg]
    exact Ev.now _
open Go.RowKit Go.Proofs.Ytipdkendfcopiaa.Read Go.Proofs.YtipdkendfcopiaaW.PrintWords Go.Proofs.YtipdkendfcopiaaW.PrintLast Go.Proofs.YtipdkendfcopiaaW.PrintMore
def cutL (n : Int) : Int := (impl_yhalf.f 300 n).getD 1
theorem cut_fin : ∀ n : Fin 201, 2 ≤ n.val → spec_l21Cut.f 300 (n.val : Int) = some (cutL n.val) ∧ impl_yhalf.f 300 (n.val : Int) = some (cutL n.val) ∧ 1 ≤ cutL n.val ∧ cutL n.val < n.val := by decide +kernel
theorem cut_facts (n : Int) (h0 : 2 ≤ n) (h1 : n ≤ 200) : spec_l21Cut.f 300 n = some (cutL n) ∧ impl_yhalf.f 300 n = some (cutL n) ∧ 1 ≤ cutL n ∧ cutL n < n := by
  obtain ⟨m, rfl⟩ : ∃ m : Nat, n = m := ⟨n.toNat, by omega⟩
  exact cut_fin ⟨m, by omega⟩ (by show 2 ≤ m; omega)
def nodeL (a b : List Int) : List Int := dg ([1] ++ a ++ b)
def six (b : List Int) : Prop := isBytes b ∧ b.length ≤ 16
theorem one_bytes : isBytes [1] := by
  intro x hx
  simp at hx
  omega
theorem node_six (a b : List Int) : six (nodeL a b) := ⟨dg_bytes _, by unfold nodeL; rw [dg_len]; omega⟩
theorem node_len (a b : List Int) : (nodeL a b).length = 16 := dg_len _
theorem specNode_eq (a b : List Int) (ha : six a) (hb : six b) : spec_l21Node.f 1000 a b = some (nodeL a b) := by
  have h1 := ha.2
  have h2 := hb.2
  unfold spec_l21Node.f
  simp only [Option.bind_some, if_pos (show ([1] : List Int).length + a.length < 140737488355328 by simp; omega), if_pos (show (([1] : List Int) ++ a).length + b.length < 140737488355328 by simp; omega)]
  rw [specDigest_eq _ (isBytes_append (isBytes_append one_bytes ha.1) hb.1) (by simp; omega) 1000 (by simp; omega)]
  rfl
theorem implNode_eq (a b : List Int) (ha : six a) (hb : six b) : impl_yboth.f a b = some (nodeL a b) := by
  have h1 := ha.2
  have h2 := hb.2
  have hf : ([[1], a, b] : List (List Int)).flatten = [1] ++ a ++ b := by simp
  have e : slices_Concat_byte_byte.f [[1], a, b] = some ([1] ++ a ++ b) := by
    unfold slices_Concat_byte_byte.f
    rw [hf, if_pos (by simp; omega)]
  unfold impl_yboth.f
  rw [e, Option.bind_some, implDigest_eq _ (isBytes_append (isBytes_append one_bytes ha.1) hb.1) (by simp; omega)]
  rfl
attribute [irreducible] nodeL
def upL (leaf : List Int) (path : List (List Int)) : Nat → Int → Int → List Int × Bool
  | 0, _, size => if size = 1 then (leaf, true) else ([], false)
  | n + 1, at_, size => if size = 1 then (leaf, false) else if at_ < cutL size then (nodeL (upL leaf path n at_ (cutL size)).1 (rd_L2 path n), (upL leaf path n at_ (cutL size)).2) else (nodeL (rd_L2 path n) (upL leaf path n (at_ - cutL size) (size - cutL size)).1, (upL leaf path n (at_ - cutL size) (size - cutL size)).2)
theorem Ev.upR {α : Type} {g : Nat → Option α} {r : α} (h : Ev (fun k => g (k + 1)) r) : Ev g r := by
  obtain ⟨n, h⟩ := h
  refine ⟨n + 1, fun k hk => ?_⟩
  obtain ⟨k, rfl⟩ : ∃ m, k = m + 1 := ⟨k - 1, by omega⟩
  exact h k (by omega)
def okR (e : S27) : Prop := okS e.f1 ∧ okS e.f2 ∧ isBytes e.f3 ∧ isBytes e.f4
def goodS (e : S27) : Bool := goodEntry e.f0 e.f1 e.f2 e.f3 e.f4
def leafS (e : S27) : List Int := leafL e.f0 e.f1 e.f2 e.f3 e.f4
def goodLog (l : List S27) : Prop := l.length ≤ 200 ∧ ∀ e ∈ l, goodS e = true
instance (l : List S27) : Decidable (goodLog l) := by unfold goodLog; infer_instance
def leavesL (l : List S27) : List (List Int) × Bool := if goodLog l then (l.map leafS, true) else ([], false)
theorem leafS_len (e : S27) : (leafS e).length = 16 := leafL_len _ _ _ _ _
theorem leafS_bytes (e : S27) : isBytes (leafS e) := leafL_bytes _ _ _ _ _
attribute [irreducible] leafS goodS
theorem implLeafS_ev (e : S27) (h : okR e) : Ev (fun k => impl_LeafOf.f k e.f0 e.f1 e.f2 e.f3 e.f4) (if goodS e = true then leafS e else []) := by
  unfold goodS leafS
  exact implLeafOf_ev e.f0 e.f1 e.f2 e.f3 e.f4 h.1 h.2.1 h.2.2.1 h.2.2.2
theorem specGoodS_ev (e : S27) (h : okR e) : Ev (fun k => spec_GoodLogEntry.f k e.f0 e.f1 e.f2 e.f3 e.f4) (goodS e) := by
  unfold goodS
  exact ⟨_, fun k hk => specGood_eq e.f0 e.f1 e.f2 e.f3 e.f4 h.1 h.2.1 k hk⟩
theorem specLeafS_ev (e : S27) (h : okR e) (hg : goodS e = true) : Ev (fun k => spec_l21Leaf.f k e.f0 e.f1 e.f2 e.f3 e.f4) (leafS e) := by
  unfold leafS
  unfold goodS at hg
  exact specLeaf_ev e.f0 e.f1 e.f2 e.f3 e.f4 hg h.2.2.1 h.2.2.2
theorem rdT_nat {l : List S27} {i : Nat} (h : i < l.length) : rd_T27 l (i : Int) = l[i] := by simp [rd_T27, List.getD_eq_getElem?_getD, List.getElem?_eq_getElem h]
theorem map_take_succ {l : List S27} {i : Nat} (h : i < l.length) : (l.take i).map leafS ++ [leafS l[i]] = (l.take (i + 1)).map leafS := by
  rw [List.take_succ_eq_append_getElem h, List.map_append, List.map_singleton]
theorem leaves_bad {l : List S27} {i : Nat} (h : i < l.length) (hg : ¬ goodS l[i] = true) : leavesL l = ([], false) := if_neg (fun g => hg (g.2 _ (List.getElem_mem h)))
theorem leaves_all {l : List S27} (hl : l.length ≤ 200) (h : ∀ e ∈ l, goodS e = true) : leavesL l = (l.map leafS, true) := if_pos ⟨hl, h⟩
theorem taken_good {l : List S27} {i : Nat} (h : i < l.length) (hg : ∀ e ∈ l.take i, goodS e = true) (hi : goodS l[i] = true) : ∀ e ∈ l.take (i + 1), goodS e = true := by
  intro e he
  rw [List.take_succ_eq_append_getElem h] at he
  rcases List.mem_append.1 he with he | he
  · exact hg e he
  · obtain rfl := List.mem_singleton.1 he
    exact hi
theorem implLeaves_l0 (l : List S27) (hl : l.length ≤ 200) (hok : ∀ e ∈ l, okR e) (d : Nat) : ∀ i, i + d = l.length → (∀ e ∈ l.take i, goodS e = true) → Ev (fun k => impl_yleaves.l0 k ((l.take i).map leafS) l (l.length : Int) (i : Int)) (leavesL l) := by
  induction d with
  | zero =>
    intro i hi hg
    obtain rfl : i = l.length := by omega
    rw [List.take_length] at hg ⊢
    refine Ev.upR ?_
    simp only [impl_yleaves.l0, if_neg (show ¬ ((l.length : Int) < (l.length : Int)) by omega)]
    rw [leaves_all hl hg]
    exact Ev.now _
  | succ d ih =>
    intro i hi hg
    have hlt : i < l.length := by omega
    refine Ev.upR ?_
    have ew : wrap64 ((i : Int) + 1) = ((i + 1 : Nat) : Int) := by rw [w64 (by omega) (by omega)]; rfl
    have hlen : ((l.take i).map leafS).length < 5864062014805 := by rw [List.length_map, List.length_take]; omega
    simp only [impl_yleaves.l0, if_pos (show (i : Int) < (l.length : Int) by omega), if_pos (Int.natCast_nonneg i), ew, rdT_nat hlt]
    refine Ev.bind (implLeafS_ev l[i] (hok _ (List.getElem_mem hlt))) ?_
    by_cases hgi : goodS l[i] = true
    · simp only [if_pos hgi, nilS.f, Option.bind_some]
      rw [decide_eq_false (by rw [leafS_len]; omega)]
      simp only [Bool.false_eq_true, if_false, if_pos hlen]
      rw [map_take_succ hlt]
      exact ih (i + 1) (by omega) (taken_good hlt hg hgi)
    · simp only [if_neg hgi, nilS.f, Option.bind_some, List.length_nil, decide_true, if_true]
      rw [leaves_bad hlt hgi]
      exact Ev.now _
theorem implLeaves_ev (l : List S27) (hok : ∀ e ∈ l, okR e) : Ev (fun k => impl_yleaves.f k l) (leavesL l) := by
  simp only [impl_yleaves.f]
  by_cases h : (l.length : Int) > 200
  · simp only [if_pos h]
    rw [show leavesL l = ([], false) from if_neg (fun g => by have := g.1; omega)]
    exact Ev.now _
  · simp only [if_neg h]
    exact implLeaves_l0 l (by omega) hok l.length 0 (by omega) (fun e he => by simp at he)
theorem specLeaves_l0 (l : List S27) (hl : l.length ≤ 200) (hok : ∀ e ∈ l, okR e) (d : Nat) : ∀ i, i + d = l.length → (∀ e ∈ l.take i, goodS e = true) → Ev (fun k => spec_l21Leaves.l0 k ((l.take i).map leafS) l (l.length : Int) (i : Int)) (leavesL l) := by
  induction d with
  | zero =>
    intro i hi hg
    obtain rfl : i = l.length := by omega
    rw [List.take_length] at hg ⊢
    refine Ev.upR ?_
    simp only [spec_l21Leaves.l0, if_neg (show ¬ ((l.length : Int) < (l.length : Int)) by omega)]
    rw [leaves_all hl hg]
    exact Ev.now _
  | succ d ih =>
    intro i hi hg
    have hlt : i < l.length := by omega
    refine Ev.upR ?_
    have ew : wrap64 ((i : Int) + 1) = ((i + 1 : Nat) : Int) := by rw [w64 (by omega) (by omega)]; rfl
    have hlen : ((l.take i).map leafS).length < 5864062014805 := by rw [List.length_map, List.length_take]; omega
    simp only [spec_l21Leaves.l0, if_pos (show (i : Int) < (l.length : Int) by omega), if_pos (Int.natCast_nonneg i), ew, rdT_nat hlt]
    refine Ev.bind (specGoodS_ev l[i] (hok _ (List.getElem_mem hlt))) ?_
    by_cases hgi : goodS l[i] = true
    · simp only [hgi, if_true]
      refine Ev.bind (specLeafS_ev l[i] (hok _ (List.getElem_mem hlt)) hgi) ?_
      simp only [if_pos hlen]
      rw [map_take_succ hlt]
      exact ih (i + 1) (by omega) (taken_good hlt hg hgi)
    · simp only [if_neg hgi]
      rw [leaves_bad hlt hgi]
      exact Ev.now _
theorem specLeaves_ev (l : List S27) (hok : ∀ e ∈ l, okR e) : Ev (fun k => spec_l21Leaves.f k l) (leavesL l) := by
  simp only [spec_l21Leaves.f]
  by_cases h : (l.length : Int) > 200
  · simp only [if_pos h]
    rw [show leavesL l = ([], false) from if_neg (fun g => by have := g.1; omega)]
    exact Ev.now _
  · simp only [if_neg h]
    exact specLeaves_l0 l (by omega) hok l.length 0 (by omega) (fun e he => by simp at he)
def cutN (n : Nat) : Nat := (cutL (n : Int)).toNat
theorem cutN_facts {n : Nat} (h0 : 2 ≤ n) (h1 : n ≤ 200) : (cutL (n : Int)) = (cutN n : Int) ∧ 1 ≤ cutN n ∧ cutN n < n := by
  obtain ⟨_, _, h2, h3⟩ := cut_facts (n : Int) (by omega) (by omega)
  unfold cutN
  omega
def rootF : Nat → List (List Int) → List Int
  | 0, _ => []
  | n + 1, l => if l.length = 0 then dg [] else if l.length = 1 then rd_L2 l 0 else nodeL (rootF n (l.take (cutN l.length))) (rootF n (l.drop (cutN l.length)))
theorem rootF_fuel (n : Nat) : ∀ (m : Nat) (l : List (List Int)), l.length ≤ 200 → l.length < n → l.length < m → rootF n l = rootF m l := by
  induction n with
  | zero => intro m l _ h; omega
  | succ n ih =>
    intro m l h200 h1 h2
    obtain ⟨m, rfl⟩ : ∃ k, m = k + 1 := ⟨m - 1, by omega⟩
    simp only [rootF]
    by_cases c0 : l.length = 0
    · rw [if_pos c0, if_pos c0]
    by_cases c1 : l.length = 1
    · rw [if_neg c0, if_neg c0, if_pos c1, if_pos c1]
    rw [if_neg c0, if_neg c0, if_neg c1, if_neg c1]
    obtain ⟨_, q1, q2⟩ := cutN_facts (n := l.length) (by omega) h200
    rw [ih m (l.take (cutN l.length)) (by rw [List.length_take]; omega) (by rw [List.length_take]; omega) (by rw [List.length_take]; omega), ih m (l.drop (cutN l.length)) (by rw [List.length_drop]; omega) (by rw [List.length_drop]; omega) (by rw [List.length_drop]; omega)]
def rootL (l : List (List Int)) : List Int := rootF 201 l
theorem rootL_nil {l : List (List Int)} (h : l.length = 0) : rootL l = dg [] := by
  show rootF (200 + 1) l = _
  rw [rootF, if_pos h]
theorem rootL_one {l : List (List Int)} (h : l.length = 1) : rootL l = rd_L2 l 0 := by
  show rootF (200 + 1) l = _
  rw [rootF, if_neg (by omega), if_pos h]
theorem rootL_node {l : List (List Int)} (h : 2 ≤ l.length) (h2 : l.length ≤ 200) : rootL l = nodeL (rootL (l.take (cutN l.length))) (rootL (l.drop (cutN l.length))) := by
  obtain ⟨_, q1, q2⟩ := cutN_facts h h2
  show rootF (200 + 1) l = _
  rw [rootF, if_neg (by omega), if_neg (by omega)]
  unfold rootL
  rw [rootF_fuel 200 201 (l.take (cutN l.length)) (by rw [List.length_take]; omega) (by rw [List.length_take]; omega) (by rw [List.length_take]; omega), rootF_fuel 200 201 (l.drop (cutN l.length)) (by rw [List.length_drop]; omega) (by rw [List.length_drop]; omega) (by rw [List.length_drop]; omega)]
def sixt (l : List (List Int)) : Prop := ∀ b ∈ l, isBytes b ∧ b.length = 16
theorem sixt_take {l : List (List Int)} (h : sixt l) (n : Nat) : sixt (l.take n) := fun b hb => h b (List.mem_of_mem_take hb)
theorem sixt_drop {l : List (List Int)} (h : sixt l) (n : Nat) : sixt (l.drop n) := fun b hb => h b (List.mem_of_mem_drop hb)
theorem sixt_rd {l : List (List Int)} (h : sixt l) {i : Nat} (hi : i < l.length) : isBytes (rd_L2 l (i : Int)) ∧ (rd_L2 l (i : Int)).length = 16 := by
  have : rd_L2 l (i : Int) = l[i] := by simp [rd_L2, List.getD_eq_getElem?_getD, List.getElem?_eq_getElem hi]
  rw [this]
  exact h _ (List.getElem_mem hi)
theorem rootL_six (n : Nat) : ∀ l : List (List Int), l.length ≤ n → l.length ≤ 200 → sixt l → isBytes (rootL l) ∧ (rootL l).length = 16 := by
  induction n with
  | zero =>
    intro l hn _ _
    rw [rootL_nil (by omega)]
    exact ⟨dg_bytes _, dg_len _⟩
  | succ n ih =>
    intro l hn h200 hs
    by_cases c0 : l.length = 0
    · rw [rootL_nil c0]
      exact ⟨dg_bytes _, dg_len _⟩
    by_cases c1 : l.length = 1
    · rw [rootL_one c1]
      exact sixt_rd hs (i := 0) (by omega)
    · rw [rootL_node (by omega) h200]
      exact ⟨(node_six _ _).1, node_len _ _⟩
theorem root_ok {l : List (List Int)} (h200 : l.length ≤ 200) (hs : sixt l) : isBytes (rootL l) ∧ (rootL l).length = 16 := rootL_six l.length l (Nat.le_refl _) h200 hs
theorem root_six {l : List (List Int)} (h200 : l.length ≤ 200) (hs : sixt l) : six (rootL l) := ⟨(root_ok h200 hs).1, by rw [(root_ok h200 hs).2]; omega⟩
theorem half_ev {n : Nat} (h0 : 2 ≤ n) (h1 : n ≤ 200) : Ev (fun k => impl_yhalf.f k (n : Int)) (cutN n : Int) := by
  obtain ⟨_, h2, _, _⟩ := cut_facts (n : Int) (by omega) (by omega)
  rw [(cutN_facts h0 h1).1] at h2
  exact Ev.of (fun k => impl_yhalf.mono _ k) h2
theorem cut_ev {n : Nat} (h0 : 2 ≤ n) (h1 : n ≤ 200) : Ev (fun k => spec_l21Cut.f k (n : Int)) (cutN n : Int) := by
  obtain ⟨h2, _, _, _⟩ := cut_facts (n : Int) (by omega) (by omega)
  rw [(cutN_facts h0 h1).1] at h2
  exact Ev.of (fun k => spec_l21Cut.mono _ k) h2
theorem node_ev {a b : List Int} (ha : six a) (hb : six b) : Ev (fun k => spec_l21Node.f k a b) (nodeL a b) := Ev.of (fun k => spec_l21Node.mono _ _ k) (specNode_eq a b ha hb)
theorem empty_dg : impl_Digest.f [] = some (dg []) := implDigest_eq [] (fun x hx => absurd hx List.not_mem_nil) (by simp)
theorem implRoot_aux (n : Nat) : ∀ l : List (List Int), l.length ≤ n → l.length ≤ 200 → sixt l → Ev (fun k => impl_yroot.f k l) (rootL l) := by
  induction n with
  | zero =>
    intro l hn _ _
    refine Ev.upR ?_
    simp only [impl_yroot.f, if_pos (show (l.length : Int) = 0 by omega), empty_dg, Option.bind_some]
    rw [rootL_nil (by omega)]
    exact Ev.now _
  | succ n ih =>
    intro l hn h200 hs
    refine Ev.upR ?_
    by_cases c0 : l.length = 0
    · simp only [impl_yroot.f, if_pos (show (l.length : Int) = 0 by omega), empty_dg, Option.bind_some]
      rw [rootL_nil c0]
      exact Ev.now _
    by_cases c1 : l.length = 1
    · have h16 := (sixt_rd hs (i := 0) (by omega)).2
      simp only [impl_yroot.f, if_neg (show ¬ (l.length : Int) = 0 by omega), if_pos (show (l.length : Int) = 1 by omega), if_pos (show (0 : Int) < (l.length : Int) by omega), bytes_Clone.f, if_pos (show (rd_L2 l 0).length ≤ 140737488355328 by rw [show ((0 : Int)) = ((0 : Nat) : Int) from rfl, h16]; omega), Option.bind_some]
      rw [rootL_one c1]
      exact Ev.now _
    · obtain ⟨_, q1, q2⟩ := cutN_facts (n := l.length) (by omega) h200
      simp only [impl_yroot.f, if_neg (show ¬ (l.length : Int) = 0 by omega), if_neg (show ¬ (l.length : Int) = 1 by omega)]
      refine Ev.bind (half_ev (n := l.length) (by omega) h200) ?_
      simp only [if_pos (Int.natCast_nonneg (cutN l.length)), if_pos (show ((cutN l.length : Nat) : Int) ≤ (l.length : Int) by omega), Int.toNat_natCast]
      have e1 := ih (l.take (cutN l.length)) (by rw [List.length_take]; omega) (by rw [List.length_take]; omega) (sixt_take hs _)
      have e2 := ih (l.drop (cutN l.length)) (by rw [List.length_drop]; omega) (by rw [List.length_drop]; omega) (sixt_drop hs _)
      refine Ev.bind e1 ?_
      refine Ev.bind e2 ?_
      simp only [implNode_eq _ _ (root_six (l := l.take (cutN l.length)) (by rw [List.length_take]; omega) (sixt_take hs _)) (root_six (l := l.drop (cutN l.length)) (by rw [List.length_drop]; omega) (sixt_drop hs _)), Option.bind_some]
      rw [rootL_node (by omega) h200]
      exact Ev.now _
theorem specRoot_aux (n : Nat) : ∀ l : List (List Int), l.length ≤ n → l.length ≤ 200 → sixt l → Ev (fun k => spec_l21Root.f k l) (rootL l) := by
  induction n with
  | zero =>
    intro l hn _ _
    refine Ev.upR ?_
    simp only [spec_l21Root.f, if_pos (show (l.length : Int) = 0 by omega)]
    rw [rootL_nil (by omega)]
    exact Ev.bind (specDigest_ev [] (fun x hx => absurd hx List.not_mem_nil) (by simp)) (Ev.now _)
  | succ n ih =>
    intro l hn h200 hs
    refine Ev.upR ?_
    by_cases c0 : l.length = 0
    · simp only [spec_l21Root.f, if_pos (show (l.length : Int) = 0 by omega)]
      rw [rootL_nil c0]
      exact Ev.bind (specDigest_ev [] (fun x hx => absurd hx List.not_mem_nil) (by simp)) (Ev.now _)
    by_cases c1 : l.length = 1
    · simp only [spec_l21Root.f, if_neg (show ¬ (l.length : Int) = 0 by omega), if_pos (show (l.length : Int) = 1 by omega), if_pos (show (0 : Int) < (l.length : Int) by omega)]
      rw [rootL_one c1]
      exact Ev.now _
    · obtain ⟨_, q1, q2⟩ := cutN_facts (n := l.length) (by omega) h200
      simp only [spec_l21Root.f, if_neg (show ¬ (l.length : Int) = 0 by omega), if_neg (show ¬ (l.length : Int) = 1 by omega)]
      refine Ev.bind (cut_ev (n := l.length) (by omega) h200) ?_
      simp only [if_pos (Int.natCast_nonneg (cutN l.length)), if_pos (show ((cutN l.length : Nat) : Int) ≤ (l.length : Int) by omega), Int.toNat_natCast]
      have e1 := ih (l.take (cutN l.length)) (by rw [List.length_take]; omega) (by rw [List.length_take]; omega) (sixt_take hs _)
      have e2 := ih (l.drop (cutN l.length)) (by rw [List.length_drop]; omega) (by rw [List.length_drop]; omega) (sixt_drop hs _)
      refine Ev.bind e1 ?_
      refine Ev.bind e2 ?_
      refine Ev.bind (node_ev (root_six (l := l.take (cutN l.length)) (by rw [List.length_take]; omega) (sixt_take hs _)) (root_six (l := l.drop (cutN l.length)) (by rw [List.length_drop]; omega) (sixt_drop hs _))) ?_
      rw [rootL_node (by omega) h200]
      exact Ev.now _
theorem sixt_leaves (l : List S27) : sixt (l.map leafS) := by
  intro b hb
  obtain ⟨e, he, rfl⟩ := List.mem_map.1 hb
  exact ⟨leafS_bytes e, leafS_len e⟩
def logRoot (l : List S27) : List Int := if goodLog l then rootL (l.map leafS) else []
theorem implRootOf_ev (l : List S27) (hok : ∀ e ∈ l, okR e) : Ev (fun k => impl_RootOf.f k l) (logRoot l) := by
  simp only [impl_RootOf.f]
  refine Ev.bind (implLeaves_ev l hok) ?_
  unfold leavesL logRoot
  by_cases hg : goodLog l
  · simp only [if_pos hg, if_true]
    exact Ev.bind (implRoot_aux _ (l.map leafS) (Nat.le_refl _) (by rw [List.length_map]; exact hg.1) (sixt_leaves l)) (Ev.now _)
  · simp only [if_neg hg, Bool.false_eq_true, if_false]
    exact Ev.now _
theorem specRootOf_ev (l : List S27) (hok : ∀ e ∈ l, okR e) : Ev (fun k => spec_RootOf.f k l) (logRoot l) := by
  simp only [spec_RootOf.f]
  refine Ev.bind (specLeaves_ev l hok) ?_
  unfold leavesL logRoot
  by_cases hg : goodLog l
  · simp only [if_pos hg, if_true]
    exact Ev.bind (specRoot_aux _ (l.map leafS) (Nat.le_refl _) (by rw [List.length_map]; exact hg.1) (sixt_leaves l)) (Ev.now _)
  · simp only [if_neg hg, Bool.false_eq_true, if_false]
    exact Ev.now _
theorem logRoot_len {l : List S27} (hg : goodLog l) : (logRoot l).length = 16 := by
  unfold logRoot
  rw [if_pos hg]
  exact (root_ok (by rw [List.length_map]; exact hg.1) (sixt_leaves l)).2
theorem Ev.upL {α : Type} {g : Nat → Option α} {r : α} (h : Ev (fun k => g (k + 1)) r) : Ev g r := by
  obtain ⟨n, h⟩ := h
  refine ⟨n + 1, fun k hk => ?_⟩
  obtain ⟨k, rfl⟩ : ∃ m, k = m + 1 := ⟨k - 1, by omega⟩
  exact h k (by omega)
def toL (e : S24) : S27 := ⟨e.f0, e.f1, e.f2, e.f3, e.f4⟩
def okX (e : S24) : Prop := okS e.f1 ∧ okS e.f2 ∧ okL okB e.f3 ∧ okL okB e.f4
def smallX (e : S24) : Prop := e.f3.length ≤ 1048576 ∧ e.f4.length ≤ 1048576
theorem szLogEntry_gen (t : Int) (who what : ByteArray) (salt cover : List Int) (h1 : okS who) (h2 : okS what) (h3 : okL okB salt) (h4 : okL okB cover) (left : Int) (l0 : 0 ≤ left) (l1 : left ≤ 1048576) :
    ∃ r, laws_szLogEntry.f t who what salt cover left = some r ∧ r ≤ 1048576 ∧ (¬ r < 0 → salt.length ≤ 1048576 ∧ cover.length ≤ 1048576) := by
  unfold okS at h1 h2
  have h3 := h3.1
  have h4 := h4.1
  unfold laws_szLogEntry.f
  rw [w64 (by omega) (by omega)]
  by_cases e1 : left - who.size < 0
  · exact ⟨_, by rw [if_pos e1], by omega, by omega⟩
  rw [if_neg e1, w64 (by omega) (by omega)]
  by_cases e2 : left - who.size - what.size < 0
  · exact ⟨_, by rw [if_pos e2], by omega, by omega⟩
  rw [if_neg e2, szByteS_eq, w64 (by omega) (by omega)]
  simp only [Option.bind_some]
  by_cases e3 : left - who.size - what.size - salt.length < 0
  · rw [if_pos e3]; exact ⟨_, rfl, by omega, by omega⟩
  rw [if_neg e3, if_neg e3, szByteS_eq, w64 (by omega) (by omega)]
  simp only [Option.bind_some]
  by_cases e4 : left - who.size - what.size - salt.length - cover.length < 0
  · rw [if_pos e4]; exact ⟨_, rfl, by omega, by omega⟩
  rw [if_neg e4, if_neg e4]; exact ⟨_, rfl, by omega, by omega⟩
theorem rd24_nat {l : List S24} {i : Nat} (h : i < l.length) : rd_T24 l (i : Int) = l[i] := by simp [rd_T24, List.getD_eq_getElem?_getD, List.getElem?_eq_getElem h]
theorem szS_l0 (l : List S24) (hok : ∀ e ∈ l, okX e) (hlen : l.length ≤ 1048576) (d : Nat) : ∀ (i : Nat) (left : Int), i + d = l.length → 0 ≤ left → left ≤ 1048576 → ∃ r : Int, Ev (fun k => laws_szLogEntryS.l0 k l left (i : Int)) r ∧ (¬ r < 0 → ∀ j (h : j < l.length), i ≤ j → smallX l[j]) := by
  induction d with
  | zero =>
    intro i left hi h0 h1
    refine ⟨left, Ev.upL ?_, fun _ j hj hij => by omega⟩
    simp only [laws_szLogEntryS.l0, if_neg (show ¬ ((i : Int) < (l.length : Int)) by omega)]
    exact Ev.now _
  | succ d ih =>
    intro i left hi h0 h1
    have hlt : i < l.length := by omega
    obtain ⟨k1, k2, k3, k4⟩ := hok _ (List.getElem_mem hlt)
    obtain ⟨r1, e1, hr1, hs1⟩ := szLogEntry_gen l[i].f0 l[i].f1 l[i].f2 l[i].f3 l[i].f4 k1 k2 k3 k4 left h0 h1
    have ew : wrap64 ((i : Int) + 1) = ((i + 1 : Nat) : Int) := by rw [w64 (by omega) (by omega)]; rfl
    by_cases hneg : r1 < 0
    · refine ⟨-1, Ev.upL ?_, fun h => by omega⟩
      simp only [laws_szLogEntryS.l0, if_pos (show (i : Int) < (l.length : Int) by omega), if_pos (Int.natCast_nonneg i), rd24_nat hlt, e1, Option.bind_some, if_pos hneg]
      exact Ev.now _
    · obtain ⟨r, er, hr⟩ := ih (i + 1) r1 (by omega) (by omega) hr1
      refine ⟨r, Ev.upL ?_, fun hn j hj hij => ?_⟩
      · simp only [laws_szLogEntryS.l0, if_pos (show (i : Int) < (l.length : Int) by omega), if_pos (Int.natCast_nonneg i), rd24_nat hlt, e1, Option.bind_some, if_neg hneg, ew]
        exact er
      · by_cases hji : j = i
        · subst hji; exact hs1 hneg
        · exact hr hn j hj (by omega)
theorem szS_ev (l : List S24) (hok : ∀ e ∈ l, okX e) (hmax : l.length ≤ 9223372036854775807) : ∃ r : Int, Ev (fun k => laws_szLogEntryS.f k l 1048576) r ∧ (¬ r < 0 → l.length ≤ 1048576 ∧ ∀ e ∈ l, smallX e) := by
  by_cases h : l.length ≤ 1048576
  · have ew : wrap64 (1048576 - (l.length : Int)) = 1048576 - (l.length : Int) := w64 (by omega) (by omega)
    obtain ⟨r, er, hr⟩ := szS_l0 l hok h l.length 0 (1048576 - (l.length : Int)) (by omega) (by omega) (by omega)
    refine ⟨r, ?_, fun hn => ⟨h, fun e he => ?_⟩⟩
    · simp only [laws_szLogEntryS.f, ew, if_neg (show ¬ (1048576 : Int) - (l.length : Int) < 0 by omega)]
      exact er
    · obtain ⟨j, hj, rfl⟩ := List.getElem_of_mem he
      exact hr hn j hj (by omega)
  · have ew : wrap64 (1048576 - (l.length : Int)) = 1048576 - (l.length : Int) := w64 (by omega) (by omega)
    refine ⟨-1, ?_, fun hn => by omega⟩
    simp only [laws_szLogEntryS.f, ew, if_pos (show (1048576 : Int) - (l.length : Int) < 0 by omega)]
    exact Ev.now _
theorem set_mid {α : Type} (A : List α) (z v : α) (m i : Nat) (h : A.length = i) : (A ++ List.replicate (m + 1) z).set i v = (A ++ [v]) ++ List.replicate m z := by
  subst h
  rw [List.set_append_right _ _ (Nat.le_refl _), Nat.sub_self, List.replicate_succ, List.set_cons_zero, List.append_assoc]
  rfl
theorem toS_l0 (l : List S24) (hs : ∀ e ∈ l, smallX e) (hlen : l.length ≤ 1048576) (d : Nat) : ∀ i, i + d = l.length → Ev (fun k => laws_toLogEntryS.l0 k l ((l.take i).map toL ++ List.replicate d z27) (i : Int)) (l.map toL) := by
  induction d with
  | zero =>
    intro i hi
    refine Ev.upL ?_
    simp only [laws_toLogEntryS.l0, if_neg (show ¬ ((i : Int) < (l.length : Int)) by omega)]
    rw [show i = l.length by omega, List.take_length, List.replicate_zero, List.append_nil]
    exact Ev.now _
  | succ d ih =>
    intro i hi
    have hlt : i < l.length := by omega
    have hs1 := hs _ (List.getElem_mem hlt)
    have ew : wrap64 ((i : Int) + 1) = ((i + 1 : Nat) : Int) := by rw [w64 (by omega) (by omega)]; rfl
    have hlA : ((l.take i).map toL).length = i := by rw [List.length_map, List.length_take]; omega
    have hl3 : ((l.take i).map toL ++ List.replicate (d + 1) z27).length = l.length := by rw [List.length_append, hlA, List.length_replicate]; omega
    refine Ev.upL ?_
    simp only [laws_toLogEntryS.l0, if_pos (show (i : Int) < (l.length : Int) by omega), if_pos (Int.natCast_nonneg i), rd24_nat hlt, hl3, ew]
    refine Ev.bind (toLogEntry_ev l[i].f0 l[i].f1 l[i].f2 l[i].f3 l[i].f4 hs1.1 hs1.2) ?_
    simp only [Int.toNat_natCast]
    rw [set_mid _ _ _ _ _ hlA]
    have hn := ih (i + 1) (by omega)
    rw [List.take_succ_eq_append_getElem hlt, List.map_append, List.map_singleton] at hn
    exact hn
theorem toS_ev (l : List S24) (hs : ∀ e ∈ l, smallX e) (hlen : l.length ≤ 1048576) : Ev (fun k => laws_toLogEntryS.f k l) (l.map toL) := by
  simp only [laws_toLogEntryS.f, if_pos (Int.natCast_nonneg l.length), Int.toNat_natCast, if_pos (show l.length ≤ 3198579280802 by omega)]
  have := toS_l0 l hs hlen l.length 0 (by omega)
  rw [List.take_zero, List.map_nil, List.nil_append] at this
  exact this
theorem rd27_nat {l : List S27} {i : Nat} (h : i < l.length) : rd_T27 l (i : Int) = l[i] := by simp [rd_T27, List.getD_eq_getElem?_getD, List.getElem?_eq_getElem h]
theorem eqS_l0 (l : List S27) (hs : ∀ e ∈ l, e.f3.length ≤ 1048576 ∧ e.f4.length ≤ 1048576) (hlen : l.length ≤ 1048576) (d : Nat) : ∀ i, i + d = l.length → Ev (fun k => laws_eqLogEntryS.l0 k l l (i : Int)) true := by
  induction d with
  | zero =>
    intro i hi
    refine Ev.upL ?_
    simp only [laws_eqLogEntryS.l0, if_neg (show ¬ ((i : Int) < (l.length : Int)) by omega)]
    exact Ev.now _
  | succ d ih =>
    intro i hi
    have hlt : i < l.length := by omega
    have hs1 := hs _ (List.getElem_mem hlt)
    have ew : wrap64 ((i : Int) + 1) = ((i + 1 : Nat) : Int) := by rw [w64 (by omega) (by omega)]; rfl
    refine Ev.upL ?_
    simp only [laws_eqLogEntryS.l0, if_pos (show (i : Int) < (l.length : Int) by omega), if_pos (Int.natCast_nonneg i), rd27_nat hlt, ew]
    refine Ev.bind (eqLogEntry_refl l[i].f0 l[i].f1 l[i].f2 l[i].f3 l[i].f4 hs1.1 hs1.2) ?_
    simp only [if_true]
    exact ih (i + 1) (by omega)
theorem eqS_refl (l : List S24) (hs : ∀ e ∈ l, smallX e) (hlen : l.length ≤ 1048576) : Ev (fun k => laws_eqLogEntryS.f k (l.map toL) (l.map toL)) true := by
  simp only [laws_eqLogEntryS.f, if_true]
  refine eqS_l0 (l.map toL) (fun e he => ?_) (by rw [List.length_map]; exact hlen) (l.map toL).length 0 (by omega)
  obtain ⟨x, hx, rfl⟩ := List.mem_map.1 he
  exact hs x hx
end Go.Proofs.Ytipdkendfcopiaa.Pr
namespace Go.Proofs.Ytipdkendfcopiaa.Pure
open Go.RowKit Go.Proofs.Ytipdkendfcopiaa.Read Go.Proofs.YtipdkendfcopiaaW.PrintWords Go.Proofs.Ytipdkendfcopiaa.Pr
set_option linter.unusedVariables false
theorem mkTot_bound (l3 l4 : Nat → Nat) (B n : Nat) (h : ∀ i, i < n → l3 i ≤ B ∧ l4 i ≤ B) : mkTot l3 l4 n ≤ n * (3 + 2 * B) := by
  induction n with
  | zero => exact Nat.zero_le _
  | succ n ih =>
    have h1 := ih (fun i hi => h i (by omega))
    have h2 := h n (by omega)
    show mkTot l3 l4 n + 3 + l3 n + l4 n ≤ (n + 1) * (3 + 2 * B)
    rw [Nat.add_mul]
    omega
theorem marks_f (l : List S24) (hs : ∀ e ∈ l, smallX e) (hlen : l.length ≤ 1048576) : ∃ r : Int, laws_markLogEntryS.f (l.map toL) 1 = some r ∧ 0 ≤ r := by
  have hb : markTot (l.map toL) ≤ (l.map toL).length * (3 + 2 * 1048576) := by
    refine mkTot_bound _ _ _ _ (fun i hi => ?_)
    rw [List.length_map] at hi
    rw [rd27_nat (by rw [List.length_map]; exact hi), List.getElem_map]
    exact hs _ (List.getElem_mem hi)
  rw [List.length_map] at hb
  have hb2 : l.length * (3 + 2 * 1048576) ≤ 1048576 * (3 + 2 * 1048576) := Nat.mul_le_mul_right _ hlen
  refine ⟨1 + markTot (l.map toL), ?_, by omega⟩
  unfold laws_markLogEntryS.f
  rw [if_pos ⟨by omega, by omega, by rw [List.length_map]; omega⟩]
theorem toL_ok {l : List S24} (hok : ∀ e ∈ l, okX e) : ∀ e ∈ l.map toL, okR e := by
  intro e he
  obtain ⟨x, hx, rfl⟩ := List.mem_map.1 he
  obtain ⟨h1, h2, h3, h4⟩ := hok x hx
  exact ⟨h1, h2, isBytes_okL h3, isBytes_okL h4⟩
theorem FnExactRootOf : laws_FnExactRootOf.Pure := by
  intro l hl
  have hok : ∀ e ∈ l, okX e := fun e he => by
    have := hl.2 e he
    exact ⟨this.2.1, this.2.2.1, this.2.2.2.1, this.2.2.2.2⟩
  obtain ⟨r, hr, hsmall⟩ := szS_ev l hok hl.1
  apply Ev.rounds
  simp only [laws_FnExactRootOf.f]
  refine Ev.bind hr ?_
  by_cases hneg : r < 0
  · simp only [if_pos hneg]; exact Ev.now _
  obtain ⟨hlen, hs⟩ := hsmall hneg
  simp only [if_neg hneg]
  have hto := toS_ev l hs hlen
  have hspec := specRootOf_ev (l.map toL) (toL_ok hok)
  have himpl := implRootOf_ev (l.map toL) (toL_ok hok)
  have hR : (logRoot (l.map toL)).length ≤ 16 := by
    by_cases hg : goodLog (l.map toL)
    · rw [logRoot_len hg]; omega
    · rw [show logRoot (l.map toL) = [] from if_neg hg]; simp
  generalize logRoot (l.map toL) = R at hspec himpl hR
  obtain ⟨m, hm, hm0⟩ := marks_f l hs hlen
  refine Ev.bind hto ?_
  refine Ev.bind hspec ?_
  refine Ev.bind hto ?_
  refine Ev.bind himpl ?_
  refine Ev.bind (eqByteS_refl R (by omega)) ?_
  simp only [if_true]
  refine Ev.bind hto ?_
  refine Ev.bind (eqS_refl l hs hlen) ?_
  simp only [if_true, hm, Option.bind_some, if_neg (show ¬ m < 0 by omega)]
  refine Ev.bind (eqByteS_refl R (by omega)) ?_
  simp only [if_true]
  refine Ev.bind (markByteS_ev R 1 (by omega) (by omega) (by omega)) ?_
  dsimp only
  refine Ev.bind (heldByteS_ev R.length 1 (by omega) (by omega) (by omega)) ?_
  simp only [if_neg (show ¬ (1 : Int) + R.length < 0 by omega), if_true]
  refine Ev.bind hto ?_
  refine Ev.bind himpl ?_
  refine Ev.bind (eqByteS_refl R (by omega)) ?_
  simp only [if_true]
  refine Ev.bind (heldByteS_ev R.length 1 (by omega) (by omega) (by omega)) ?_
  simp only [if_neg (show ¬ (1 : Int) + R.length < 0 by omega), if_true]
  exact Ev.now _
end Go.Proofs.Ytipdkendfcopiaa.Pure
namespace Go.Proofs.Ytipdkendfcopiaa.fnExactRootOf
open Go.ChangeShapes Go.WideShapes Go.ChangeAt Go.RowKit Go.Proofs.Ytipdkendfcopiaa.Read Go.Proofs.YtipdkendfcopiaaW.PrintWords Go.Proofs.Ytipdkendfcopiaa.Pr
open Go.ChangeMaps (open_string shut_string)
set_option linter.unusedVariables false
theorem own : ownKnob Try.prog.godebug = none := by kernel_rfl
theorem laidOut : laidOutB Try.prog = true := by kernel_rfl
set_option maxRecDepth 100000 in
theorem lifted (os : Os) (started : os.Started) (H : Type) (enc : TypeId × Value → H) :
    ReturnsInHanded {} Try.checked os 7 .any (Rows.fnExactRootOfSpec.pre6 enc Try.prog Try.f7 Rows.fnExactRootOfRow.domain false) (Rows.fnExactRootOfSpec.post enc Try.prog Try.f7 false true false false) := by
  refine returnsInHanded_of_change (C := Try.checked) own started (by kernel_rfl) Try.func7
    (ChangeSpec.witness6 (enc := enc) (C := Try.checked) false ⟨#[], #[.slice none 0 0], []⟩ 8 (by kernel_rfl) (by kernel_rfl) (by kernel_rfl) (by kernel_rfl)) ?_
  intro W base args ds gs before hval0 hW hcnd _
  have hval : ∀ (j : Nat) t v, Try.f7.params[j]? = some t → args[j]? = some v → Value.okWide Try.prog W .any base t v := hval0
  have hW' := hW
  obtain ⟨p, q, hA0, hV, rfl, hfz, hnd⟩ := hW
  have hA : DataW.TrodAll enc Try.prog W 0 (fun _ => true) true Try.f7.params.toList args.toList ds p := hA0
  rw [Try.params7] at hA hval
  obtain ⟨v0, vs0, d0, ds0, p0, q0, hargs, rfl, rfl, h0, r0⟩ := trodAll_cons hA
  obtain ⟨rfl, rfl, rfl⟩ := trodAll_nil r0
  obtain rfl : args = #[v0] := by cases args; simp_all
  obtain ⟨rfl, rfl⟩ := trodVars_none hV
  have lt0 : ∀ x ∈ p0, x.block < W.heap.size := by obtain ⟨m, hm⟩ := h0; exact DataW.trod_lt m _ _ _ hm
  have bk0 := fun {W' : World} (bel : Below W.heap.size W W') => Below.trod laidOut (by kernel_rfl) (of_decide_eq_true (by kernel_rfl)) h0 bel lt0
  obtain ⟨A0, c0, l0, rfl, hl0, hC0, o0⟩ := arg_slice Try.underlying36 (tellsL Try.underlying36 (by kernel_rfl) tells24) (hval 0 36 v0 rfl rfl) h0
  obtain ⟨k, hk⟩ := Pure.FnExactRootOf l0 o0
  refine (laws_FnExactRootOf.calls k _ _ l0 true W hC0 hl0 hk).mono fun e W' hpost => ?_
  obtain ⟨he, hb⟩ := hpost
  have bel : Below W.heap.size W W' := hb
  subst he
  exact ⟨_, rfl, _, _, _, [], _, [], hW', trodAll_mk1 (shut_bool Try.underlying4 _), (trodAll_cons_mk (bk0 bel) trodAll_mk0), rfl, bel.frame _, fun h => by cases h⟩
theorem over : Rows.fnExactRootOfRow.holds Try.pinned (OpenSpec.ofChange Rows.fnExactRootOfSpec) :=
  OpenClaim.holds_of_wide 7 Try.f7 rfl rfl rfl rfl rfl rfl rfl ⟨rfl, rfl, rfl, rfl, rfl⟩ rfl rfl rfl rfl rfl (by kernel_rfl) Try.func7 (by kernel_rfl)
    (of_decide_eq_true (by kernel_rfl)) (by unfold Func.isWrapper; first | (rw [if_pos (by decide +kernel)]; kernel_rfl) | (rw [if_neg (by decide +kernel)]; exact ⟨rfl, rfl⟩))
    (fun os started H enc _ => lifted os started H enc)
theorem proved : Rows.FnExactRootOfSaid := over
#print axioms proved
end Go.Proofs.Ytipdkendfcopiaa.fnExactRootOf
namespace Go.Proofs.Ytipdkendfcopiaa
theorem fnExactRootOf_holds : Rows.FnExactRootOfSaid := fnExactRootOf.proved
end Go.Proofs.Ytipdkendfcopiaa
