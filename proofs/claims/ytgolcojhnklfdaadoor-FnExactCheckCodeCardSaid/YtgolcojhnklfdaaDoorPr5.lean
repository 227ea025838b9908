-- Written by mkprint.py (a program of this repo, which drives the print.py of the kit): Lean checks it.
import Derived.Test.YtgolcojhnklfdaaDoorPr0x
import Derived.Test.YtgolcojhnklfdaaDoorPr14
import Derived.Test.YtgolcojhnklfdaaDoorPr15
import Derived.Test.YtgolcojhnklfdaaDoorPrgByteS
namespace Go.Proofs.YtgolcojhnklfdaaDoor.Pr
open Go.RowKit Go.Proofs.YtgolcojhnklfdaaDoorW.PrintWords Go.Proofs.YtgolcojhnklfdaaDoorW.PrintLast Go.Proofs.YtgolcojhnklfdaaDoorW.PrintMore
attribute [local go_sem] max2_int min2_int max_two min_two max_three min_three max_four min_four   -- for this text's walks alone
set_option linter.unusedVariables false
set_option linter.unusedSimpArgs false

/-! ### laws_FnExactCheckCode: function 5 -/
def laws_FnExactCheckCode.f (k : Nat) (l0 : List Int) (a1 : Int) (a2 : Int) (a3 : Int) (a4 : ByteArray) : Option (Bool) := if (l0.length : Int) > 1048576 then (some true) else (if (a4.size : Int) > 1048576 then (some true) else ((laws_toByteS.f k l0).bind fun t101 => ((spec_CheckCode.f k t101 a1 a2 a3 a4).bind fun bt104 => ((laws_toByteS.f k l0).bind fun t106 => ((impl_CheckCode.f k t106 a1 a2 a3 a4).bind fun bt109 => (if bt109.1 = bt104.1 then (if (bt109.2 != bt104.2) = true then (none) else ((laws_toByteS.f k l0).bind fun t111 => ((laws_eqByteS.f k t106 t111).bind fun t114 => (if t114 = true then (some true) else (none))))) else (none)))))))
theorem laws_FnExactCheckCode.mono : ∀ a0 a1 a2 a3 a4 k, LeO (laws_FnExactCheckCode.f k a0 a1 a2 a3 a4) (laws_FnExactCheckCode.f (k + 1) a0 a1 a2 a3 a4) := by
  intro a0 a1 a2 a3 a4 k
  unfold laws_FnExactCheckCode.f
  repeat' first
      | (with_reducible exact impl_CheckCode.mono _ _ _ _ _ _)
      | (with_reducible exact laws_eqByteS.mono _ _ _)
      | (with_reducible exact laws_toByteS.mono _ _)
      | (with_reducible exact spec_CheckCode.mono _ _ _ _ _ _)
      | (with_reducible exact LeO.refl _)
      | (with_reducible exact LeO.none _)
      | (with_reducible refine LeO.ite ?_ ?_)
      | (with_reducible refine LeO.bind ?_ (fun _ => ?_))
      | exact impl_CheckCode.mono _ _ _ _ _ _
      | exact laws_eqByteS.mono _ _ _
      | exact laws_toByteS.mono _ _
      | exact spec_CheckCode.mono _ _ _ _ _ _
      | exact LeO.none _
      | refine LeO.ite ?_ ?_
      | refine LeO.bind ?_ (fun _ => ?_)
set_option maxHeartbeats 8000000 in
set_option maxRecDepth 100000 in
theorem laws_FnExactCheckCode.calls (k : Nat) (A0 : Option Addr) (c0 : Nat) (l0 : List Int) (a1 : Int) (a2 : Int) (a3 : Int) (a4 : ByteArray) (r : Bool) (w : World) (htab : TabW w) (hr0 : Kd.C (Kd.int .u8) w A0 l0.length l0) (hc0 : l0.length ≤ c0) (h : laws_FnExactCheckCode.f k l0 a1 a2 a3 a4 = some r) :
    Calls Tryd.prog 5 #[.slice A0 l0.length c0, .int .i64 a1, .int .i64 a2, .int .i64 a3, .string a4] w fun e w' => e = .returned (.bool r) ∧ Below w.heap.size w w' := by
  have HTAB := Aside0.mk htab
  clear htab
  have HR0 := Aside0.mk hr0
  have HC0 := Aside0.mk hc0
  clear hr0 hc0
  have HB := Aside0.mk (Below.refl w.heap.size w)
  have H : (if (l0.length : Int) > 1048576 then (some true) else (if (a4.size : Int) > 1048576 then (some true) else ((laws_toByteS.f k l0).bind fun t101 => ((spec_CheckCode.f k t101 a1 a2 a3 a4).bind fun bt104 => ((laws_toByteS.f k l0).bind fun t106 => ((impl_CheckCode.f k t106 a1 a2 a3 a4).bind fun bt109 => (if bt109.1 = bt104.1 then (if (bt109.2 != bt104.2) = true then (none) else ((laws_toByteS.f k l0).bind fun t111 => ((laws_eqByteS.f k t106 t111).bind fun t114 => (if t114 = true then (some true) else (none))))) else (none)))))))) = some r := h
  clear h
  by_cases c6 : (l0.length : Int) > 1048576
  · rw [if_pos c6] at H
    have c6b0 : decide (1048576 < (l0.length : Int)) = true := decide_eq_true c6
    have c6b1 : decide (1048576 < l0.length) = true := decide_eq_true (by omega)
    clear c6
    obtain rfl := Option.some.inj H
    go_enter Tryd.func5, Tryd.ntmps5
    go_wp2
    go_ret
    exact ⟨by first | rfl | (simp [errW_none, errW_some] <;> rfl) | (simp [*, errW_none, errW_some] <;> rfl), by repeat (first | (with_reducible first | exact HB.out | apply below_alloc | apply pw_below_drewN | apply below_drew1) | exact HB.out)⟩
  · rw [if_neg c6] at H
    have c6b0 : decide (1048576 < (l0.length : Int)) = false := decide_eq_false c6
    have c6b1 : decide (1048576 < l0.length) = false := decide_eq_false (by omega)
    clear c6
    by_cases c7 : (a4.size : Int) > 1048576
    · rw [if_pos c7] at H
      have c7b0 : decide (1048576 < (a4.size : Int)) = true := decide_eq_true c7
      have c7b1 : decide (1048576 < a4.size) = true := decide_eq_true (by omega)
      clear c7
      obtain rfl := Option.some.inj H
      go_enter Tryd.func5, Tryd.ntmps5
      go_wp2
      go_ret
      exact ⟨by first | rfl | (simp [errW_none, errW_some] <;> rfl) | (simp [*, errW_none, errW_some] <;> rfl), by repeat (first | (with_reducible first | exact HB.out | apply below_alloc | apply pw_below_drewN | apply below_drew1) | exact HB.out)⟩
    · rw [if_neg c7] at H
      have c7b0 : decide (1048576 < (a4.size : Int)) = false := decide_eq_false c7
      have c7b1 : decide (1048576 < a4.size) = false := decide_eq_false (by omega)
      clear c7
      replace H := Option.bind_eq_some_iff.mp H
      obtain ⟨t101, A80, H⟩ := H
      replace H : ((spec_CheckCode.f k t101 a1 a2 a3 a4).bind fun bt104 => ((laws_toByteS.f k l0).bind fun t106 => ((impl_CheckCode.f k t106 a1 a2 a3 a4).bind fun bt109 => (if bt109.1 = bt104.1 then (if (bt109.2 != bt104.2) = true then (none) else ((laws_toByteS.f k l0).bind fun t111 => ((laws_eqByteS.f k t106 t111).bind fun t114 => (if t114 = true then (some true) else (none))))) else (none))))) = some r := H
      have A8 := Aside0.mk A80
      clear A80
      replace H := Option.bind_eq_some_iff.mp H
      obtain ⟨⟨t104, t105⟩, A90, H⟩ := H
      replace H : ((laws_toByteS.f k l0).bind fun t106 => ((impl_CheckCode.f k t106 a1 a2 a3 a4).bind fun bt109 => (if bt109.1 = t104 then (if (bt109.2 != t105) = true then (none) else ((laws_toByteS.f k l0).bind fun t111 => ((laws_eqByteS.f k t106 t111).bind fun t114 => (if t114 = true then (some true) else (none))))) else (none)))) = some r := H
      have A9 := Aside0.mk A90
      clear A90
      replace H := Option.bind_eq_some_iff.mp H
      obtain ⟨t106, A100, H⟩ := H
      replace H : ((impl_CheckCode.f k t106 a1 a2 a3 a4).bind fun bt109 => (if bt109.1 = t104 then (if (bt109.2 != t105) = true then (none) else ((laws_toByteS.f k l0).bind fun t111 => ((laws_eqByteS.f k t106 t111).bind fun t114 => (if t114 = true then (some true) else (none))))) else (none))) = some r := H
      have A10 := Aside0.mk A100
      clear A100
      replace H := Option.bind_eq_some_iff.mp H
      obtain ⟨⟨t109, t110⟩, A110, H⟩ := H
      replace H : (if t109 = t104 then (if (t110 != t105) = true then (none) else ((laws_toByteS.f k l0).bind fun t111 => ((laws_eqByteS.f k t106 t111).bind fun t114 => (if t114 = true then (some true) else (none))))) else (none)) = some r := H
      have A11 := Aside0.mk A110
      clear A110
      by_cases c12 : t109 = t104
      · rw [if_pos c12] at H
        have c12b0 : (t109 == t104) = true := beq_iff_eq.mpr c12
        have c12b1 : (t109 != t104) = false := bne_eq_false_iff_eq.mpr c12
        clear c12
        by_cases c13 : (t110 != t105) = true
        · rw [if_pos c13] at H
          exact absurd H (by simp)
        · rw [if_neg c13] at H
          have c13b0 : (t110 != t105) = false := by simpa using c13
          (try (have c13b1 : decide (t110 = t105) = true := by simpa using c13))
          (try (have c13b2 : (t110 == t105) = true := by simpa using c13))
          clear c13
          replace H := Option.bind_eq_some_iff.mp H
          obtain ⟨t111, A140, H⟩ := H
          replace H : ((laws_eqByteS.f k t106 t111).bind fun t114 => (if t114 = true then (some true) else (none))) = some r := H
          have A14 := Aside0.mk A140
          clear A140
          replace H := Option.bind_eq_some_iff.mp H
          obtain ⟨t114, A150, H⟩ := H
          replace H : (if t114 = true then (some true) else (none)) = some r := H
          have A15 := Aside0.mk A150
          clear A150
          by_cases c16 : t114 = true
          · subst c16
            have H1 : (some true) = some r := by rw [if_pos rfl] at H; exact H
            clear H
            have H := H1
            clear H1
            obtain rfl := Option.some.inj H
            go_enter Tryd.func5, Tryd.ntmps5
            go_wp2_with (first | ((with_reducible refine gate_callee (f := 11) rfl ?_); refine goesL_ (some 24) rfl rfl Tryd.func11 (by kernel_rfl) rfl #[.slice A0 l0.length c0] rfl (by (try simp only [List.map_toArray, List.map_cons, List.map_nil]); first | done | rfl | (simp only [List.length_drop, List.length_take]; rfl)) ?_; (with_reducible refine (laws_toByteS.calls k _ _ l0 t101 _ ?side1 ?side2 A8.out).mono ?_); (case side1 => repeat (first | exact HR0.out | (with_reducible refine Kd.C_alloc ?_ _) | (with_reducible refine Kd.C_drewN ?_ _) | (with_reducible refine Kd.C_drew ?_))); (case side2 => exact HC0.out); rintro e w17 ⟨v102, rfl, ho0, hb⟩; refine ⟨_, rfl, ?_⟩; have n0_ := Aside0.mk (Kd.R_lower ho0 (below_size (by repeat (first | (with_reducible first | exact HB.out | apply below_alloc | apply pw_below_drewN | apply below_drew1) | exact HB.out)))); have n1_ := Aside0.mk (below_step (by repeat (first | (with_reducible first | exact HB.out | apply below_alloc | apply pw_below_drewN | apply below_drew1) | exact HB.out)) hb); clear HB; have HO103 := n0_; have HB := n1_; clear n0_ n1_; (try clear hb); (try clear hb2); (try clear hk); (try clear hi); (try clear ho0); obtain ⟨Ao18, co18, eo18⟩ := Kd.R_slice HO103.out; subst eo18) | ((with_reducible refine gate_callee (f := 14) rfl ?_); refine goesL_ (some 29) rfl rfl Tryd.func14 (by kernel_rfl) rfl #[.slice Ao18 t101.length co18, .int .i64 a1, .int .i64 a2, .int .i64 a3, .string a4] rfl (by (try simp only [List.map_toArray, List.map_cons, List.map_nil]); first | done | rfl | (simp only [List.length_drop, List.length_take]; rfl)) ?_; (with_reducible refine (spec_CheckCode.calls k _ _ t101 a1 a2 a3 a4 t104 t105 _ ?side1 ?side2 A9.out).mono ?_); (case side1 => repeat (first | exact (Kd.R_reads' HO103.out).2.2 | (with_reducible refine Kd.C_alloc ?_ _) | (with_reducible refine Kd.C_drewN ?_ _) | (with_reducible refine Kd.C_drew ?_))); (case side2 => exact (Kd.R_reads' HO103.out).2.1); rintro e w19 ⟨rfl, hb⟩; refine ⟨_, rfl, ?_⟩; have n0_ := Aside0.mk (Kd.R_below (by (with_reducible repeat (first | apply Kd.R_alloc | apply Kd.R_drewN | apply Kd.R_drew)); exact HO103.out) hb); have n1_ := Aside0.mk (below_step (by repeat (first | (with_reducible first | exact HB.out | apply below_alloc | apply pw_below_drewN | apply below_drew1) | exact HB.out)) hb); clear HO103; clear HB; have HO103 := n0_; have HB := n1_; clear n0_ n1_; (try clear hb); (try clear hb2); (try clear hk); (try clear hi)) | ((with_reducible refine gate_callee (f := 11) rfl ?_); refine goesL_ (some 33) rfl rfl Tryd.func11 (by kernel_rfl) rfl #[.slice A0 l0.length c0] rfl (by (try simp only [List.map_toArray, List.map_cons, List.map_nil]); first | done | rfl | (simp only [List.length_drop, List.length_take]; rfl)) ?_; (with_reducible refine (laws_toByteS.calls k _ _ l0 t106 _ ?side1 ?side2 A10.out).mono ?_); (case side1 => repeat (first | exact (Kd.C_below HR0.out HB.out) | (with_reducible refine Kd.C_alloc ?_ _) | (with_reducible refine Kd.C_drewN ?_ _) | (with_reducible refine Kd.C_drew ?_))); (case side2 => exact HC0.out); rintro e w20 ⟨v107, rfl, ho0, hb⟩; refine ⟨_, rfl, ?_⟩; have n0_ := Aside0.mk (Kd.R_elder' (by (with_reducible repeat (first | apply Kd.R_alloc | apply Kd.R_drewN | apply Kd.R_drew)); exact HO103.out) (Kd.R_base ho0) hb); have n1_ := Aside0.mk (Kd.R_lower (Kd.R_new' ho0 (Kd.R_lt (by (with_reducible repeat (first | apply Kd.R_alloc | apply Kd.R_drewN | apply Kd.R_drew)); exact HO103.out))) (below_size (by repeat (first | (with_reducible first | exact HB.out | apply below_alloc | apply pw_below_drewN | apply below_drew1) | exact HB.out)))); have n2_ := Aside0.mk (below_step (by repeat (first | (with_reducible first | exact HB.out | apply below_alloc | apply pw_below_drewN | apply below_drew1) | exact HB.out)) hb); clear HO103; clear HB; have HO103 := n0_; have HO108 := n1_; have HB := n2_; clear n0_ n1_ n2_; (try clear hb); (try clear hb2); (try clear hk); (try clear hi); (try clear ho0); obtain ⟨Ao21, co21, eo21⟩ := Kd.R_slice HO108.out; subst eo21) | ((with_reducible refine gate_callee (f := 15) rfl ?_); refine goesL_ (some 40) rfl rfl Tryd.func15 (by kernel_rfl) rfl #[.slice Ao21 t106.length co21, .int .i64 a1, .int .i64 a2, .int .i64 a3, .string a4] rfl (by (try simp only [List.map_toArray, List.map_cons, List.map_nil]); first | done | rfl | (simp only [List.length_drop, List.length_take]; rfl)) ?_; (with_reducible refine (impl_CheckCode.calls k _ _ t106 a1 a2 a3 a4 t109 t110 _ ?tabw ?side1 ?side2 A11.out).mono ?_); (case tabw => repeat (first | exact HTAB.out | exact TabW_below HTAB.out HB.out | (with_reducible refine TabW_drewN ?_ _) | (with_reducible refine TabW_drew ?_) | (with_reducible refine TabW_alloc ?_ _))); (case side1 => repeat (first | exact (Kd.R_reads' HO108.out).2.2 | (with_reducible refine Kd.C_alloc ?_ _) | (with_reducible refine Kd.C_drewN ?_ _) | (with_reducible refine Kd.C_drew ?_))); (case side2 => exact (Kd.R_reads' HO108.out).2.1); rintro e w22 ⟨rfl, hb⟩; refine ⟨_, rfl, ?_⟩; have n0_ := Aside0.mk (Kd.R_below (by (with_reducible repeat (first | apply Kd.R_alloc | apply Kd.R_drewN | apply Kd.R_drew)); exact HO103.out) hb); have n1_ := Aside0.mk (Kd.R_below (by (with_reducible repeat (first | apply Kd.R_alloc | apply Kd.R_drewN | apply Kd.R_drew)); exact HO108.out) hb); have n2_ := Aside0.mk (below_step (by repeat (first | (with_reducible first | exact HB.out | apply below_alloc | apply pw_below_drewN | apply below_drew1) | exact HB.out)) hb); clear HO103; clear HO108; clear HB; have HO103 := n0_; have HO108 := n1_; have HB := n2_; clear n0_ n1_ n2_; (try clear hb); (try clear hb2); (try clear hk); (try clear hi)) | ((with_reducible refine gate_callee (f := 11) rfl ?_); refine goesL_ (some 53) rfl rfl Tryd.func11 (by kernel_rfl) rfl #[.slice A0 l0.length c0] rfl (by (try simp only [List.map_toArray, List.map_cons, List.map_nil]); first | done | rfl | (simp only [List.length_drop, List.length_take]; rfl)) ?_; (with_reducible refine (laws_toByteS.calls k _ _ l0 t111 _ ?side1 ?side2 A14.out).mono ?_); (case side1 => repeat (first | exact (Kd.C_below HR0.out HB.out) | (with_reducible refine Kd.C_alloc ?_ _) | (with_reducible refine Kd.C_drewN ?_ _) | (with_reducible refine Kd.C_drew ?_))); (case side2 => exact HC0.out); rintro e w23 ⟨v112, rfl, ho0, hb⟩; refine ⟨_, rfl, ?_⟩; have n0_ := Aside0.mk (Kd.R_elder' (by (with_reducible repeat (first | apply Kd.R_alloc | apply Kd.R_drewN | apply Kd.R_drew)); exact HO103.out) (Kd.R_base ho0) hb); have n1_ := Aside0.mk (Kd.R_elder' (by (with_reducible repeat (first | apply Kd.R_alloc | apply Kd.R_drewN | apply Kd.R_drew)); exact HO108.out) (Kd.R_base ho0) hb); have n2_ := Aside0.mk (Kd.R_lower (Kd.R_new' (Kd.R_new' ho0 (Kd.R_lt (by (with_reducible repeat (first | apply Kd.R_alloc | apply Kd.R_drewN | apply Kd.R_drew)); exact HO103.out))) (Kd.R_lt (by (with_reducible repeat (first | apply Kd.R_alloc | apply Kd.R_drewN | apply Kd.R_drew)); exact HO108.out))) (below_size (by repeat (first | (with_reducible first | exact HB.out | apply below_alloc | apply pw_below_drewN | apply below_drew1) | exact HB.out)))); have n3_ := Aside0.mk (below_step (by repeat (first | (with_reducible first | exact HB.out | apply below_alloc | apply pw_below_drewN | apply below_drew1) | exact HB.out)) hb); clear HO103; clear HO108; clear HB; have HO103 := n0_; have HO108 := n1_; have HO113 := n2_; have HB := n3_; clear n0_ n1_ n2_ n3_; (try clear hb); (try clear hb2); (try clear hk); (try clear hi); (try clear ho0); obtain ⟨Ao24, co24, eo24⟩ := Kd.R_slice HO113.out; subst eo24) | ((with_reducible refine gate_callee (f := 13) rfl ?_); refine goesL_ (some 54) rfl rfl Tryd.func13 (by kernel_rfl) rfl #[.slice Ao21 t106.length co21, .slice Ao24 t111.length co24] rfl (by (try simp only [List.map_toArray, List.map_cons, List.map_nil]); first | done | rfl | (simp only [List.length_drop, List.length_take]; rfl)) ?_; (with_reducible refine (laws_eqByteS.calls k _ _ t106 _ _ t111 true _ ?side1 ?side2 ?side3 ?side4 A15.out).mono ?_); (case side1 => repeat (first | exact (Kd.R_reads' HO108.out).2.2 | (with_reducible refine Kd.C_alloc ?_ _) | (with_reducible refine Kd.C_drewN ?_ _) | (with_reducible refine Kd.C_drew ?_))); (case side2 => exact (Kd.R_reads' HO108.out).2.1); (case side3 => repeat (first | exact (Kd.R_reads' HO113.out).2.2 | (with_reducible refine Kd.C_alloc ?_ _) | (with_reducible refine Kd.C_drewN ?_ _) | (with_reducible refine Kd.C_drew ?_))); (case side4 => exact (Kd.R_reads' HO113.out).2.1); rintro e w' ⟨rfl, ⟨nd, rfl⟩⟩; refine ⟨_, rfl, ?_⟩))
            go_ret
            exact ⟨by first | rfl | (simp [errW_none, errW_some] <;> rfl) | (simp [*, errW_none, errW_some] <;> rfl), by repeat (first | (with_reducible first | exact HB.out | apply below_alloc | apply pw_below_drewN | apply below_drew1) | exact HB.out)⟩
          · replace c16 := Bool.eq_false_iff.mpr c16
            subst c16
            have H1 : (none) = some r := by rw [if_neg (show ¬ (false = true) by decide)] at H; exact H
            clear H
            have H := H1
            clear H1
            exact absurd H (by simp)
      · rw [if_neg c12] at H
        exact absurd H (by simp)

end Go.Proofs.YtgolcojhnklfdaaDoor.Pr
