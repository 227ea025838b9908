-- Written by mkprint.py (a program of this repo, which drives the print.py of the kit): Lean checks it.
import Derived.Test.YtgolcojhnklfdaaDoorPr0x
import Derived.Test.YtgolcojhnklfdaaDoorPr33
import Derived.Test.YtgolcojhnklfdaaDoorPr34
namespace Go.Proofs.YtgolcojhnklfdaaDoor.Pr
open Go.RowKit Go.Proofs.YtgolcojhnklfdaaDoorW.PrintWords Go.Proofs.YtgolcojhnklfdaaDoorW.PrintLast Go.Proofs.YtgolcojhnklfdaaDoorW.PrintMore
attribute [local go_sem] max2_int min2_int max_two min_two max_three min_three max_four min_four   -- for this text's walks alone
set_option linter.unusedVariables false
set_option linter.unusedSimpArgs false

/-! ### spec_HandleOf: function 20 -/
def spec_HandleOf.f (k : Nat) (l0 : List Int) (a1 : ByteArray) (a2 : Int) : Option (ByteArray) := if (l0.length : Int) > 64 then (some (⟨#[]⟩ : ByteArray)) else ((spec_GoodName.f k a1).bind fun t101 => (if t101 = true then (if a2 < 1 then (some (⟨#[]⟩ : ByteArray)) else (if a2 > 1000000 then (some (⟨#[]⟩ : ByteArray)) else ((spec_l18Handle.f k l0 a1 a2).bind fun t102 => (some t102)))) else (some (⟨#[]⟩ : ByteArray))))
theorem spec_HandleOf.mono : ∀ a0 a1 a2 k, LeO (spec_HandleOf.f k a0 a1 a2) (spec_HandleOf.f (k + 1) a0 a1 a2) := by
  intro a0 a1 a2 k
  unfold spec_HandleOf.f
  repeat' first
      | (with_reducible exact spec_GoodName.mono _ _)
      | (with_reducible exact spec_l18Handle.mono _ _ _ _)
      | (with_reducible exact LeO.refl _)
      | (with_reducible exact LeO.none _)
      | (with_reducible refine LeO.ite ?_ ?_)
      | (with_reducible refine LeO.bind ?_ (fun _ => ?_))
      | exact spec_GoodName.mono _ _
      | exact spec_l18Handle.mono _ _ _ _
      | exact LeO.none _
      | refine LeO.ite ?_ ?_
      | refine LeO.bind ?_ (fun _ => ?_)
set_option maxHeartbeats 8000000 in
set_option maxRecDepth 100000 in
theorem spec_HandleOf.calls (k : Nat) (A0 : Option Addr) (c0 : Nat) (l0 : List Int) (a1 : ByteArray) (a2 : Int) (r : ByteArray) (w : World) (hr0 : Kd.C (Kd.int .u8) w A0 l0.length l0) (hc0 : l0.length ≤ c0) (h : spec_HandleOf.f k l0 a1 a2 = some r) :
    Calls Tryd.prog 20 #[.slice A0 l0.length c0, .string a1, .int .i64 a2] w fun e w' => e = .returned (.string r) ∧ Below w.heap.size w w' := by
  have HR0 := Aside0.mk hr0
  have HC0 := Aside0.mk hc0
  clear hr0 hc0
  have HB := Aside0.mk (Below.refl w.heap.size w)
  have H : (if (l0.length : Int) > 64 then (some (⟨#[]⟩ : ByteArray)) else ((spec_GoodName.f k a1).bind fun t101 => (if t101 = true then (if a2 < 1 then (some (⟨#[]⟩ : ByteArray)) else (if a2 > 1000000 then (some (⟨#[]⟩ : ByteArray)) else ((spec_l18Handle.f k l0 a1 a2).bind fun t102 => (some t102)))) else (some (⟨#[]⟩ : ByteArray))))) = some r := h
  clear h
  by_cases c4 : (l0.length : Int) > 64
  · rw [if_pos c4] at H
    have c4b0 : decide (64 < (l0.length : Int)) = true := decide_eq_true c4
    have c4b1 : decide (64 < l0.length) = true := decide_eq_true (by omega)
    clear c4
    obtain rfl := Option.some.inj H
    go_enter Tryd.func20, Tryd.ntmps20
    go_wp2
    go_ret
    exact ⟨by first | rfl | (simp [errW_none, errW_some] <;> rfl) | (simp [*, errW_none, errW_some] <;> rfl), by repeat (first | (with_reducible first | exact HB.out | apply below_alloc | apply pw_below_drewN | apply below_drew1) | exact HB.out)⟩
  · rw [if_neg c4] at H
    have c4b0 : decide (64 < (l0.length : Int)) = false := decide_eq_false c4
    have c4b1 : decide (64 < l0.length) = false := decide_eq_false (by omega)
    clear c4
    replace H := Option.bind_eq_some_iff.mp H
    obtain ⟨t101, A50, H⟩ := H
    replace H : (if t101 = true then (if a2 < 1 then (some (⟨#[]⟩ : ByteArray)) else (if a2 > 1000000 then (some (⟨#[]⟩ : ByteArray)) else ((spec_l18Handle.f k l0 a1 a2).bind fun t102 => (some t102)))) else (some (⟨#[]⟩ : ByteArray))) = some r := H
    have A5 := Aside0.mk A50
    clear A50
    by_cases c6 : t101 = true
    · subst c6
      have H1 : (if a2 < 1 then (some (⟨#[]⟩ : ByteArray)) else (if a2 > 1000000 then (some (⟨#[]⟩ : ByteArray)) else ((spec_l18Handle.f k l0 a1 a2).bind fun t102 => (some t102)))) = some r := by rw [if_pos rfl] at H; exact H
      clear H
      have H := H1
      clear H1
      by_cases c7 : a2 < 1
      · rw [if_pos c7] at H
        have c7b0 : decide (a2 < 1) = true := decide_eq_true c7
        clear c7
        obtain rfl := Option.some.inj H
        go_enter Tryd.func20, Tryd.ntmps20
        go_wp2_with (first | (go_at_call 33; (with_reducible refine (spec_GoodName.calls k a1 true _ A5.out).mono ?_); rintro e w' ⟨rfl, ⟨nd, rfl⟩⟩))
        go_ret
        exact ⟨by first | rfl | (simp [errW_none, errW_some] <;> rfl) | (simp [*, errW_none, errW_some] <;> rfl), by repeat (first | (with_reducible first | exact HB.out | apply below_alloc | apply pw_below_drewN | apply below_drew1) | exact HB.out)⟩
      · rw [if_neg c7] at H
        have c7b0 : decide (a2 < 1) = false := decide_eq_false c7
        clear c7
        by_cases c8 : a2 > 1000000
        · rw [if_pos c8] at H
          have c8b0 : decide (1000000 < a2) = true := decide_eq_true c8
          clear c8
          obtain rfl := Option.some.inj H
          go_enter Tryd.func20, Tryd.ntmps20
          go_wp2_with (first | (go_at_call 33; (with_reducible refine (spec_GoodName.calls k a1 true _ A5.out).mono ?_); rintro e w' ⟨rfl, ⟨nd, rfl⟩⟩))
          go_ret
          exact ⟨by first | rfl | (simp [errW_none, errW_some] <;> rfl) | (simp [*, errW_none, errW_some] <;> rfl), by repeat (first | (with_reducible first | exact HB.out | apply below_alloc | apply pw_below_drewN | apply below_drew1) | exact HB.out)⟩
        · rw [if_neg c8] at H
          have c8b0 : decide (1000000 < a2) = false := decide_eq_false c8
          clear c8
          replace H := Option.bind_eq_some_iff.mp H
          obtain ⟨t102, A90, H⟩ := H
          replace H : (some t102) = some r := H
          have A9 := Aside0.mk A90
          clear A90
          obtain rfl := Option.some.inj H
          go_enter Tryd.func20, Tryd.ntmps20
          go_wp2_with (first | (go_at_call 33; (with_reducible refine (spec_GoodName.calls k a1 true _ A5.out).mono ?_); rintro e w' ⟨rfl, ⟨nd, rfl⟩⟩) | ((with_reducible refine gate_callee (f := 34) rfl ?_); refine goesL_ (some 26) rfl rfl Tryd.func34 (by kernel_rfl) rfl #[.slice A0 l0.length c0, .string a1, .int .i64 a2] rfl (by (try simp only [List.map_toArray, List.map_cons, List.map_nil]); first | done | rfl | (simp only [List.length_drop, List.length_take]; rfl)) ?_; (with_reducible refine (spec_l18Handle.calls k _ _ l0 a1 a2 t102 _ ?side1 ?side2 A9.out).mono ?_); (case side1 => repeat (first | exact HR0.out | (with_reducible refine Kd.C_alloc ?_ _) | (with_reducible refine Kd.C_drewN ?_ _) | (with_reducible refine Kd.C_drew ?_))); (case side2 => exact HC0.out); rintro e w10 ⟨rfl, hb⟩; refine ⟨_, rfl, ?_⟩; have n0_ := Aside0.mk (below_step (by repeat (first | (with_reducible first | exact HB.out | apply below_alloc | apply pw_below_drewN | apply below_drew1) | exact HB.out)) hb); clear HB; have HB := n0_; clear n0_; (try clear hb); (try clear hb2); (try clear hk); (try clear hi)))
          go_ret
          exact ⟨by first | rfl | (simp [errW_none, errW_some] <;> rfl) | (simp [*, errW_none, errW_some] <;> rfl), by repeat (first | (with_reducible first | exact HB.out | apply below_alloc | apply pw_below_drewN | apply below_drew1) | exact HB.out)⟩
    · replace c6 := Bool.eq_false_iff.mpr c6
      subst c6
      have H1 : (some (⟨#[]⟩ : ByteArray)) = some r := by rw [if_neg (show ¬ (false = true) by decide)] at H; exact H
      clear H
      have H := H1
      clear H1
      obtain rfl := Option.some.inj H
      go_enter Tryd.func20, Tryd.ntmps20
      go_wp2_with (first | (go_at_call 33; (with_reducible refine (spec_GoodName.calls k a1 false _ A5.out).mono ?_); rintro e w' ⟨rfl, ⟨nd, rfl⟩⟩))
      go_ret
      exact ⟨by first | rfl | (simp [errW_none, errW_some] <;> rfl) | (simp [*, errW_none, errW_some] <;> rfl), by repeat (first | (with_reducible first | exact HB.out | apply below_alloc | apply pw_below_drewN | apply below_drew1) | exact HB.out)⟩

end Go.Proofs.YtgolcojhnklfdaaDoor.Pr
