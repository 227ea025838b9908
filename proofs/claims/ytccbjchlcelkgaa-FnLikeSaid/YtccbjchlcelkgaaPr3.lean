-- Written by mkprint.py (a program of this repo, which drives the print.py of the kit): Lean checks it.
import Derived.Test.YtccbjchlcelkgaaPr0x
import Derived.Test.YtccbjchlcelkgaaPr11
import Derived.Test.YtccbjchlcelkgaaPr12
import Derived.Test.YtccbjchlcelkgaaPr13
import Derived.Test.YtccbjchlcelkgaaPr14
namespace Go.Proofs.Ytccbjchlcelkgaa.Pr
open Go.RowKit Go.Proofs.YtccbjchlcelkgaaW.PrintWords Go.Proofs.YtccbjchlcelkgaaW.PrintLast Go.Proofs.YtccbjchlcelkgaaW.PrintMore
attribute [local go_sem] max2_int min2_int max_two min_two max_three min_three max_four min_four   -- for this text's walks alone
set_option linter.unusedVariables false
set_option linter.unusedSimpArgs false

/-! ### laws_FnLike: function 3 -/
def laws_FnLike.f (k : Nat) (l0 : List Int) : Option (Bool) := if (l0.length : Int) > 1048576 then (some true) else ((spec_DrawLike.f k l0).bind fun bt101 => ((impl_Like.f k bt101.1 bt101.2).bind fun t103 => ((spec_Like.f k bt101.1 bt101.2).bind fun t104 => (if (t103 != t104) = true then (none) else ((spec_PatternOf.f k bt101.1).bind fun t105 => (if (wrap64 ((t105.size : Int) + 1)) > 200 then (some true) else ((impl_Like.f k bt101.1 t105).bind fun t106 => (if t106 = true then (if bt101.1.size + 1 ≤ 9223372036854775807 then ((impl_Like.f k (bt101.1 ++ (⟨#[120]⟩ : ByteArray)) t105).bind fun t107 => (if t107 = true then (none) else (if t105.size + 1 ≤ 9223372036854775807 then ((impl_Like.f k (bt101.1 ++ (⟨#[120]⟩ : ByteArray)) (t105 ++ (⟨#[42]⟩ : ByteArray))).bind fun t108 => (if t108 = true then (if t103 = true then (if (wrap64 ((bt101.2.size : Int) + 1)) > 200 then (some true) else (if (wrap64 ((bt101.1.size : Int) + 2)) > 200 then (some true) else (if bt101.1.size + 2 ≤ 9223372036854775807 then (if bt101.2.size + 1 ≤ 9223372036854775807 then ((impl_Like.f k (bt101.1 ++ (⟨#[121, 122]⟩ : ByteArray)) (bt101.2 ++ (⟨#[42]⟩ : ByteArray))).bind fun t109 => (some t109)) else (none)) else (none)))) else (some true)) else (none))) else (none)))) else (none)) else (none)))))))))
theorem laws_FnLike.mono : ∀ a0 k, LeO (laws_FnLike.f k a0) (laws_FnLike.f (k + 1) a0) := by
  intro a0 k
  unfold laws_FnLike.f
  repeat' first
      | (with_reducible exact impl_Like.mono _ _ _)
      | (with_reducible exact spec_DrawLike.mono _ _)
      | (with_reducible exact spec_Like.mono _ _ _)
      | (with_reducible exact spec_PatternOf.mono _ _)
      | (with_reducible exact LeO.refl _)
      | (with_reducible exact LeO.none _)
      | (with_reducible refine LeO.ite ?_ ?_)
      | (with_reducible refine LeO.bind ?_ (fun _ => ?_))
      | exact impl_Like.mono _ _ _
      | exact spec_DrawLike.mono _ _
      | exact spec_Like.mono _ _ _
      | exact spec_PatternOf.mono _ _
      | exact LeO.none _
      | refine LeO.ite ?_ ?_
      | refine LeO.bind ?_ (fun _ => ?_)
set_option maxHeartbeats 8000000 in
set_option maxRecDepth 100000 in
theorem laws_FnLike.calls (k : Nat) (A0 : Option Addr) (c0 : Nat) (l0 : List Int) (r : Bool) (w : World) (hr0 : Kd.C (Kd.int .u8) w A0 l0.length l0) (hc0 : l0.length ≤ c0) (h : laws_FnLike.f k l0 = some r) :
    Calls Try.prog 3 #[.slice A0 l0.length c0] w fun e w' => e = .returned (.bool r) ∧ Below w.heap.size w w' := by
  have HR0 := Aside0.mk hr0
  have HC0 := Aside0.mk hc0
  clear hr0 hc0
  have HB := Aside0.mk (Below.refl w.heap.size w)
  have H : (if (l0.length : Int) > 1048576 then (some true) else ((spec_DrawLike.f k l0).bind fun bt101 => ((impl_Like.f k bt101.1 bt101.2).bind fun t103 => ((spec_Like.f k bt101.1 bt101.2).bind fun t104 => (if (t103 != t104) = true then (none) else ((spec_PatternOf.f k bt101.1).bind fun t105 => (if (wrap64 ((t105.size : Int) + 1)) > 200 then (some true) else ((impl_Like.f k bt101.1 t105).bind fun t106 => (if t106 = true then (if bt101.1.size + 1 ≤ 9223372036854775807 then ((impl_Like.f k (bt101.1 ++ (⟨#[120]⟩ : ByteArray)) t105).bind fun t107 => (if t107 = true then (none) else (if t105.size + 1 ≤ 9223372036854775807 then ((impl_Like.f k (bt101.1 ++ (⟨#[120]⟩ : ByteArray)) (t105 ++ (⟨#[42]⟩ : ByteArray))).bind fun t108 => (if t108 = true then (if t103 = true then (if (wrap64 ((bt101.2.size : Int) + 1)) > 200 then (some true) else (if (wrap64 ((bt101.1.size : Int) + 2)) > 200 then (some true) else (if bt101.1.size + 2 ≤ 9223372036854775807 then (if bt101.2.size + 1 ≤ 9223372036854775807 then ((impl_Like.f k (bt101.1 ++ (⟨#[121, 122]⟩ : ByteArray)) (bt101.2 ++ (⟨#[42]⟩ : ByteArray))).bind fun t109 => (some t109)) else (none)) else (none)))) else (some true)) else (none))) else (none)))) else (none)) else (none)))))))))) = some r := h
  clear h
  by_cases c2 : (l0.length : Int) > 1048576
  · rw [if_pos c2] at H
    have c2b0 : decide (1048576 < (l0.length : Int)) = true := decide_eq_true c2
    have c2b1 : decide (1048576 < l0.length) = true := decide_eq_true (by omega)
    clear c2
    obtain rfl := Option.some.inj H
    go_enter Try.func3, Try.ntmps3
    go_wp2
    go_ret
    exact ⟨by first | rfl | (simp [errW_none, errW_some] <;> rfl) | (simp [*, errW_none, errW_some] <;> rfl), by repeat (first | (with_reducible first | exact HB.out | apply below_alloc | apply pw_below_drewN | apply below_drew1) | exact HB.out)⟩
  · rw [if_neg c2] at H
    have c2b0 : decide (1048576 < (l0.length : Int)) = false := decide_eq_false c2
    have c2b1 : decide (1048576 < l0.length) = false := decide_eq_false (by omega)
    clear c2
    replace H := Option.bind_eq_some_iff.mp H
    obtain ⟨⟨t101, t102⟩, A30, H⟩ := H
    replace H : ((impl_Like.f k t101 t102).bind fun t103 => ((spec_Like.f k t101 t102).bind fun t104 => (if (t103 != t104) = true then (none) else ((spec_PatternOf.f k t101).bind fun t105 => (if (wrap64 ((t105.size : Int) + 1)) > 200 then (some true) else ((impl_Like.f k t101 t105).bind fun t106 => (if t106 = true then (if t101.size + 1 ≤ 9223372036854775807 then ((impl_Like.f k (t101 ++ (⟨#[120]⟩ : ByteArray)) t105).bind fun t107 => (if t107 = true then (none) else (if t105.size + 1 ≤ 9223372036854775807 then ((impl_Like.f k (t101 ++ (⟨#[120]⟩ : ByteArray)) (t105 ++ (⟨#[42]⟩ : ByteArray))).bind fun t108 => (if t108 = true then (if t103 = true then (if (wrap64 ((t102.size : Int) + 1)) > 200 then (some true) else (if (wrap64 ((t101.size : Int) + 2)) > 200 then (some true) else (if t101.size + 2 ≤ 9223372036854775807 then (if t102.size + 1 ≤ 9223372036854775807 then ((impl_Like.f k (t101 ++ (⟨#[121, 122]⟩ : ByteArray)) (t102 ++ (⟨#[42]⟩ : ByteArray))).bind fun t109 => (some t109)) else (none)) else (none)))) else (some true)) else (none))) else (none)))) else (none)) else (none)))))))) = some r := H
    have A3 := Aside0.mk A30
    clear A30
    replace H := Option.bind_eq_some_iff.mp H
    obtain ⟨t103, A40, H⟩ := H
    replace H : ((spec_Like.f k t101 t102).bind fun t104 => (if (t103 != t104) = true then (none) else ((spec_PatternOf.f k t101).bind fun t105 => (if (wrap64 ((t105.size : Int) + 1)) > 200 then (some true) else ((impl_Like.f k t101 t105).bind fun t106 => (if t106 = true then (if t101.size + 1 ≤ 9223372036854775807 then ((impl_Like.f k (t101 ++ (⟨#[120]⟩ : ByteArray)) t105).bind fun t107 => (if t107 = true then (none) else (if t105.size + 1 ≤ 9223372036854775807 then ((impl_Like.f k (t101 ++ (⟨#[120]⟩ : ByteArray)) (t105 ++ (⟨#[42]⟩ : ByteArray))).bind fun t108 => (if t108 = true then (if t103 = true then (if (wrap64 ((t102.size : Int) + 1)) > 200 then (some true) else (if (wrap64 ((t101.size : Int) + 2)) > 200 then (some true) else (if t101.size + 2 ≤ 9223372036854775807 then (if t102.size + 1 ≤ 9223372036854775807 then ((impl_Like.f k (t101 ++ (⟨#[121, 122]⟩ : ByteArray)) (t102 ++ (⟨#[42]⟩ : ByteArray))).bind fun t109 => (some t109)) else (none)) else (none)))) else (some true)) else (none))) else (none)))) else (none)) else (none))))))) = some r := H
    have A4 := Aside0.mk A40
    clear A40
    replace H := Option.bind_eq_some_iff.mp H
    obtain ⟨t104, A50, H⟩ := H
    replace H : (if (t103 != t104) = true then (none) else ((spec_PatternOf.f k t101).bind fun t105 => (if (wrap64 ((t105.size : Int) + 1)) > 200 then (some true) else ((impl_Like.f k t101 t105).bind fun t106 => (if t106 = true then (if t101.size + 1 ≤ 9223372036854775807 then ((impl_Like.f k (t101 ++ (⟨#[120]⟩ : ByteArray)) t105).bind fun t107 => (if t107 = true then (none) else (if t105.size + 1 ≤ 9223372036854775807 then ((impl_Like.f k (t101 ++ (⟨#[120]⟩ : ByteArray)) (t105 ++ (⟨#[42]⟩ : ByteArray))).bind fun t108 => (if t108 = true then (if t103 = true then (if (wrap64 ((t102.size : Int) + 1)) > 200 then (some true) else (if (wrap64 ((t101.size : Int) + 2)) > 200 then (some true) else (if t101.size + 2 ≤ 9223372036854775807 then (if t102.size + 1 ≤ 9223372036854775807 then ((impl_Like.f k (t101 ++ (⟨#[121, 122]⟩ : ByteArray)) (t102 ++ (⟨#[42]⟩ : ByteArray))).bind fun t109 => (some t109)) else (none)) else (none)))) else (some true)) else (none))) else (none)))) else (none)) else (none)))))) = some r := H
    have A5 := Aside0.mk A50
    clear A50
    by_cases c6 : (t103 != t104) = true
    · rw [if_pos c6] at H
      exact absurd H (by simp)
    · rw [if_neg c6] at H
      have c6b0 : (t103 != t104) = false := by simpa using c6
      (try (have c6b1 : decide (t103 = t104) = true := by simpa using c6))
      (try (have c6b2 : (t103 == t104) = true := by simpa using c6))
      clear c6
      replace H := Option.bind_eq_some_iff.mp H
      obtain ⟨t105, A70, H⟩ := H
      replace H : (if (wrap64 ((t105.size : Int) + 1)) > 200 then (some true) else ((impl_Like.f k t101 t105).bind fun t106 => (if t106 = true then (if t101.size + 1 ≤ 9223372036854775807 then ((impl_Like.f k (t101 ++ (⟨#[120]⟩ : ByteArray)) t105).bind fun t107 => (if t107 = true then (none) else (if t105.size + 1 ≤ 9223372036854775807 then ((impl_Like.f k (t101 ++ (⟨#[120]⟩ : ByteArray)) (t105 ++ (⟨#[42]⟩ : ByteArray))).bind fun t108 => (if t108 = true then (if t103 = true then (if (wrap64 ((t102.size : Int) + 1)) > 200 then (some true) else (if (wrap64 ((t101.size : Int) + 2)) > 200 then (some true) else (if t101.size + 2 ≤ 9223372036854775807 then (if t102.size + 1 ≤ 9223372036854775807 then ((impl_Like.f k (t101 ++ (⟨#[121, 122]⟩ : ByteArray)) (t102 ++ (⟨#[42]⟩ : ByteArray))).bind fun t109 => (some t109)) else (none)) else (none)))) else (some true)) else (none))) else (none)))) else (none)) else (none)))) = some r := H
      have A7 := Aside0.mk A70
      clear A70
      by_cases c8 : (wrap64 ((t105.size : Int) + 1)) > 200
      · rw [if_pos c8] at H
        have c8b0 : decide (200 < (wrap64 ((t105.size : Int) + 1))) = true := decide_eq_true c8
        clear c8
        obtain rfl := Option.some.inj H
        go_enter Try.func3, Try.ntmps3
        go_wp2_with (first | ((with_reducible refine gate_callee (f := 11) rfl ?_); refine goesL_ (some 12) rfl rfl Try.func11 (by kernel_rfl) rfl #[.slice A0 l0.length c0] rfl (by (try simp only [List.map_toArray, List.map_cons, List.map_nil]); first | done | rfl | (simp only [List.length_drop, List.length_take]; rfl)) ?_; (with_reducible refine (spec_DrawLike.calls k _ _ l0 t101 t102 _ ?side1 ?side2 A3.out).mono ?_); (case side1 => repeat (first | exact HR0.out | (with_reducible refine Kd.C_alloc ?_ _) | (with_reducible refine Kd.C_drewN ?_ _) | (with_reducible refine Kd.C_drew ?_))); (case side2 => exact HC0.out); rintro e w9 ⟨rfl, hb⟩; refine ⟨_, rfl, ?_⟩; have n0_ := Aside0.mk (below_step (by repeat (first | (with_reducible first | exact HB.out | apply below_alloc | apply pw_below_drewN | apply below_drew1) | exact HB.out)) hb); clear HB; have HB := n0_; clear n0_; (try clear hb); (try clear hb2); (try clear hk); (try clear hi)) | ((with_reducible refine gate_callee (f := 12) rfl ?_); refine goesL_ (some 17) rfl rfl Try.func12 (by kernel_rfl) rfl #[.string t101, .string t102] rfl (by (try simp only [List.map_toArray, List.map_cons, List.map_nil]); first | done | rfl | (simp only [List.length_drop, List.length_take]; rfl)) ?_; (with_reducible refine (impl_Like.calls k t101 t102 t103 _ A4.out).mono ?_); rintro e w10 ⟨rfl, hb⟩; refine ⟨_, rfl, ?_⟩; have n0_ := Aside0.mk (below_step (by repeat (first | (with_reducible first | exact HB.out | apply below_alloc | apply pw_below_drewN | apply below_drew1) | exact HB.out)) hb); clear HB; have HB := n0_; clear n0_; (try clear hb); (try clear hb2); (try clear hk); (try clear hi)) | ((with_reducible refine gate_callee (f := 13) rfl ?_); refine goesL_ (some 21) rfl rfl Try.func13 (by kernel_rfl) rfl #[.string t101, .string t102] rfl (by (try simp only [List.map_toArray, List.map_cons, List.map_nil]); first | done | rfl | (simp only [List.length_drop, List.length_take]; rfl)) ?_; (with_reducible refine (spec_Like.calls k t101 t102 t104 _ A5.out).mono ?_); rintro e w11 ⟨rfl, hb⟩; refine ⟨_, rfl, ?_⟩; have n0_ := Aside0.mk (below_step (by repeat (first | (with_reducible first | exact HB.out | apply below_alloc | apply pw_below_drewN | apply below_drew1) | exact HB.out)) hb); clear HB; have HB := n0_; clear n0_; (try clear hb); (try clear hb2); (try clear hk); (try clear hi)) | ((with_reducible refine gate_callee (f := 14) rfl ?_); refine goesL_ (some 24) rfl rfl Try.func14 (by kernel_rfl) rfl #[.string t101] rfl (by (try simp only [List.map_toArray, List.map_cons, List.map_nil]); first | done | rfl | (simp only [List.length_drop, List.length_take]; rfl)) ?_; (with_reducible refine (spec_PatternOf.calls k t101 t105 _ A7.out).mono ?_); rintro e w12 ⟨rfl, hb⟩; refine ⟨_, rfl, ?_⟩; have n0_ := Aside0.mk (below_step (by repeat (first | (with_reducible first | exact HB.out | apply below_alloc | apply pw_below_drewN | apply below_drew1) | exact HB.out)) hb); clear HB; have HB := n0_; clear n0_; (try clear hb); (try clear hb2); (try clear hk); (try clear hi)))
        go_ret
        exact ⟨by first | rfl | (simp [errW_none, errW_some] <;> rfl) | (simp [*, errW_none, errW_some] <;> rfl), by repeat (first | (with_reducible first | exact HB.out | apply below_alloc | apply pw_below_drewN | apply below_drew1) | exact HB.out)⟩
      · rw [if_neg c8] at H
        have c8b0 : decide (200 < (wrap64 ((t105.size : Int) + 1))) = false := decide_eq_false c8
        clear c8
        replace H := Option.bind_eq_some_iff.mp H
        obtain ⟨t106, A130, H⟩ := H
        replace H : (if t106 = true then (if t101.size + 1 ≤ 9223372036854775807 then ((impl_Like.f k (t101 ++ (⟨#[120]⟩ : ByteArray)) t105).bind fun t107 => (if t107 = true then (none) else (if t105.size + 1 ≤ 9223372036854775807 then ((impl_Like.f k (t101 ++ (⟨#[120]⟩ : ByteArray)) (t105 ++ (⟨#[42]⟩ : ByteArray))).bind fun t108 => (if t108 = true then (if t103 = true then (if (wrap64 ((t102.size : Int) + 1)) > 200 then (some true) else (if (wrap64 ((t101.size : Int) + 2)) > 200 then (some true) else (if t101.size + 2 ≤ 9223372036854775807 then (if t102.size + 1 ≤ 9223372036854775807 then ((impl_Like.f k (t101 ++ (⟨#[121, 122]⟩ : ByteArray)) (t102 ++ (⟨#[42]⟩ : ByteArray))).bind fun t109 => (some t109)) else (none)) else (none)))) else (some true)) else (none))) else (none)))) else (none)) else (none)) = some r := H
        have A13 := Aside0.mk A130
        clear A130
        by_cases c14 : t106 = true
        · subst c14
          have H1 : (if t101.size + 1 ≤ 9223372036854775807 then ((impl_Like.f k (t101 ++ (⟨#[120]⟩ : ByteArray)) t105).bind fun t107 => (if t107 = true then (none) else (if t105.size + 1 ≤ 9223372036854775807 then ((impl_Like.f k (t101 ++ (⟨#[120]⟩ : ByteArray)) (t105 ++ (⟨#[42]⟩ : ByteArray))).bind fun t108 => (if t108 = true then (if t103 = true then (if (wrap64 ((t102.size : Int) + 1)) > 200 then (some true) else (if (wrap64 ((t101.size : Int) + 2)) > 200 then (some true) else (if t101.size + 2 ≤ 9223372036854775807 then (if t102.size + 1 ≤ 9223372036854775807 then ((impl_Like.f k (t101 ++ (⟨#[121, 122]⟩ : ByteArray)) (t102 ++ (⟨#[42]⟩ : ByteArray))).bind fun t109 => (some t109)) else (none)) else (none)))) else (some true)) else (none))) else (none)))) else (none)) = some r := by rw [if_pos rfl] at H; exact H
          clear H
          have H := H1
          clear H1
          by_cases c15 : t101.size + 1 ≤ 9223372036854775807
          · rw [if_pos c15] at H
            have c15b0 := eq_true c15
            have c15b1 : decide (t101.size + 1 ≤ 9223372036854775807) = true := decide_eq_true c15
            try have c15b2 : (9223372036854775807 < t101.size + 1) = False := eq_false (Nat.not_lt.2 c15)
            replace H := Option.bind_eq_some_iff.mp H
            obtain ⟨t107, A160, H⟩ := H
            replace H : (if t107 = true then (none) else (if t105.size + 1 ≤ 9223372036854775807 then ((impl_Like.f k (t101 ++ (⟨#[120]⟩ : ByteArray)) (t105 ++ (⟨#[42]⟩ : ByteArray))).bind fun t108 => (if t108 = true then (if t103 = true then (if (wrap64 ((t102.size : Int) + 1)) > 200 then (some true) else (if (wrap64 ((t101.size : Int) + 2)) > 200 then (some true) else (if t101.size + 2 ≤ 9223372036854775807 then (if t102.size + 1 ≤ 9223372036854775807 then ((impl_Like.f k (t101 ++ (⟨#[121, 122]⟩ : ByteArray)) (t102 ++ (⟨#[42]⟩ : ByteArray))).bind fun t109 => (some t109)) else (none)) else (none)))) else (some true)) else (none))) else (none))) = some r := H
            have A16 := Aside0.mk A160
            clear A160
            by_cases c17 : t107 = true
            · subst c17
              have H1 : (none) = some r := by rw [if_pos rfl] at H; exact H
              clear H
              have H := H1
              clear H1
              exact absurd H (by simp)
            · replace c17 := Bool.eq_false_iff.mpr c17
              subst c17
              have H1 : (if t105.size + 1 ≤ 9223372036854775807 then ((impl_Like.f k (t101 ++ (⟨#[120]⟩ : ByteArray)) (t105 ++ (⟨#[42]⟩ : ByteArray))).bind fun t108 => (if t108 = true then (if t103 = true then (if (wrap64 ((t102.size : Int) + 1)) > 200 then (some true) else (if (wrap64 ((t101.size : Int) + 2)) > 200 then (some true) else (if t101.size + 2 ≤ 9223372036854775807 then (if t102.size + 1 ≤ 9223372036854775807 then ((impl_Like.f k (t101 ++ (⟨#[121, 122]⟩ : ByteArray)) (t102 ++ (⟨#[42]⟩ : ByteArray))).bind fun t109 => (some t109)) else (none)) else (none)))) else (some true)) else (none))) else (none)) = some r := by rw [if_neg (show ¬ (false = true) by decide)] at H; exact H
              clear H
              have H := H1
              clear H1
              by_cases c18 : t105.size + 1 ≤ 9223372036854775807
              · rw [if_pos c18] at H
                have c18b0 := eq_true c18
                have c18b1 : decide (t105.size + 1 ≤ 9223372036854775807) = true := decide_eq_true c18
                try (have c18b2 : (9223372036854775807 < t105.size + 1) = False := eq_false (Nat.not_lt.2 c18); have c18b9 : decide (200 < (t105.size : Int) + 1) = false := by rw [← c8b0, show wrap64 ((t105.size : Int) + 1) = (t105.size : Int) + 1 from (by unfold wrap64; omega)])
                replace H := Option.bind_eq_some_iff.mp H
                obtain ⟨t108, A190, H⟩ := H
                replace H : (if t108 = true then (if t103 = true then (if (wrap64 ((t102.size : Int) + 1)) > 200 then (some true) else (if (wrap64 ((t101.size : Int) + 2)) > 200 then (some true) else (if t101.size + 2 ≤ 9223372036854775807 then (if t102.size + 1 ≤ 9223372036854775807 then ((impl_Like.f k (t101 ++ (⟨#[121, 122]⟩ : ByteArray)) (t102 ++ (⟨#[42]⟩ : ByteArray))).bind fun t109 => (some t109)) else (none)) else (none)))) else (some true)) else (none)) = some r := H
                have A19 := Aside0.mk A190
                clear A190
                by_cases c20 : t108 = true
                · subst c20
                  have H1 : (if t103 = true then (if (wrap64 ((t102.size : Int) + 1)) > 200 then (some true) else (if (wrap64 ((t101.size : Int) + 2)) > 200 then (some true) else (if t101.size + 2 ≤ 9223372036854775807 then (if t102.size + 1 ≤ 9223372036854775807 then ((impl_Like.f k (t101 ++ (⟨#[121, 122]⟩ : ByteArray)) (t102 ++ (⟨#[42]⟩ : ByteArray))).bind fun t109 => (some t109)) else (none)) else (none)))) else (some true)) = some r := by rw [if_pos rfl] at H; exact H
                  clear H
                  have H := H1
                  clear H1
                  by_cases c21 : t103 = true
                  · subst c21
                    have H1 : (if (wrap64 ((t102.size : Int) + 1)) > 200 then (some true) else (if (wrap64 ((t101.size : Int) + 2)) > 200 then (some true) else (if t101.size + 2 ≤ 9223372036854775807 then (if t102.size + 1 ≤ 9223372036854775807 then ((impl_Like.f k (t101 ++ (⟨#[121, 122]⟩ : ByteArray)) (t102 ++ (⟨#[42]⟩ : ByteArray))).bind fun t109 => (some t109)) else (none)) else (none)))) = some r := by rw [if_pos rfl] at H; exact H
                    clear H
                    have H := H1
                    clear H1
                    by_cases c22 : (wrap64 ((t102.size : Int) + 1)) > 200
                    · rw [if_pos c22] at H
                      have c22b0 : decide (200 < (wrap64 ((t102.size : Int) + 1))) = true := decide_eq_true c22
                      clear c22
                      obtain rfl := Option.some.inj H
                      go_enter Try.func3, Try.ntmps3
                      go_wp2_with (first | ((with_reducible refine gate_callee (f := 11) rfl ?_); refine goesL_ (some 12) rfl rfl Try.func11 (by kernel_rfl) rfl #[.slice A0 l0.length c0] rfl (by (try simp only [List.map_toArray, List.map_cons, List.map_nil]); first | done | rfl | (simp only [List.length_drop, List.length_take]; rfl)) ?_; (with_reducible refine (spec_DrawLike.calls k _ _ l0 t101 t102 _ ?side1 ?side2 A3.out).mono ?_); (case side1 => repeat (first | exact HR0.out | (with_reducible refine Kd.C_alloc ?_ _) | (with_reducible refine Kd.C_drewN ?_ _) | (with_reducible refine Kd.C_drew ?_))); (case side2 => exact HC0.out); rintro e w23 ⟨rfl, hb⟩; refine ⟨_, rfl, ?_⟩; have n0_ := Aside0.mk (below_step (by repeat (first | (with_reducible first | exact HB.out | apply below_alloc | apply pw_below_drewN | apply below_drew1) | exact HB.out)) hb); clear HB; have HB := n0_; clear n0_; (try clear hb); (try clear hb2); (try clear hk); (try clear hi)) | ((with_reducible refine gate_callee (f := 12) rfl ?_); refine goesL_ (some 17) rfl rfl Try.func12 (by kernel_rfl) rfl #[.string t101, .string t102] rfl (by (try simp only [List.map_toArray, List.map_cons, List.map_nil]); first | done | rfl | (simp only [List.length_drop, List.length_take]; rfl)) ?_; (with_reducible refine (impl_Like.calls k t101 t102 true _ A4.out).mono ?_); rintro e w24 ⟨rfl, hb⟩; refine ⟨_, rfl, ?_⟩; have n0_ := Aside0.mk (below_step (by repeat (first | (with_reducible first | exact HB.out | apply below_alloc | apply pw_below_drewN | apply below_drew1) | exact HB.out)) hb); clear HB; have HB := n0_; clear n0_; (try clear hb); (try clear hb2); (try clear hk); (try clear hi)) | ((with_reducible refine gate_callee (f := 13) rfl ?_); refine goesL_ (some 21) rfl rfl Try.func13 (by kernel_rfl) rfl #[.string t101, .string t102] rfl (by (try simp only [List.map_toArray, List.map_cons, List.map_nil]); first | done | rfl | (simp only [List.length_drop, List.length_take]; rfl)) ?_; (with_reducible refine (spec_Like.calls k t101 t102 t104 _ A5.out).mono ?_); rintro e w25 ⟨rfl, hb⟩; refine ⟨_, rfl, ?_⟩; have n0_ := Aside0.mk (below_step (by repeat (first | (with_reducible first | exact HB.out | apply below_alloc | apply pw_below_drewN | apply below_drew1) | exact HB.out)) hb); clear HB; have HB := n0_; clear n0_; (try clear hb); (try clear hb2); (try clear hk); (try clear hi)) | ((with_reducible refine gate_callee (f := 14) rfl ?_); refine goesL_ (some 24) rfl rfl Try.func14 (by kernel_rfl) rfl #[.string t101] rfl (by (try simp only [List.map_toArray, List.map_cons, List.map_nil]); first | done | rfl | (simp only [List.length_drop, List.length_take]; rfl)) ?_; (with_reducible refine (spec_PatternOf.calls k t101 t105 _ A7.out).mono ?_); rintro e w26 ⟨rfl, hb⟩; refine ⟨_, rfl, ?_⟩; have n0_ := Aside0.mk (below_step (by repeat (first | (with_reducible first | exact HB.out | apply below_alloc | apply pw_below_drewN | apply below_drew1) | exact HB.out)) hb); clear HB; have HB := n0_; clear n0_; (try clear hb); (try clear hb2); (try clear hk); (try clear hi)) | ((with_reducible refine gate_callee (f := 12) rfl ?_); refine goesL_ (some 31) rfl rfl Try.func12 (by kernel_rfl) rfl #[.string t101, .string t105] rfl (by (try simp only [List.map_toArray, List.map_cons, List.map_nil]); first | done | rfl | (simp only [List.length_drop, List.length_take]; rfl)) ?_; (with_reducible refine (impl_Like.calls k t101 t105 true _ A13.out).mono ?_); rintro e w27 ⟨rfl, hb⟩; refine ⟨_, rfl, ?_⟩; have n0_ := Aside0.mk (below_step (by repeat (first | (with_reducible first | exact HB.out | apply below_alloc | apply pw_below_drewN | apply below_drew1) | exact HB.out)) hb); clear HB; have HB := n0_; clear n0_; (try clear hb); (try clear hb2); (try clear hk); (try clear hi)) | (go_at_call 12; (with_reducible refine (impl_Like.calls k (t101 ++ (⟨#[120]⟩ : ByteArray)) t105 false _ A16.out).mono ?_); rintro e w28 ⟨rfl, hb⟩; have n0_ := Aside0.mk (below_step (by repeat (first | (with_reducible first | exact HB.out | apply below_alloc | apply pw_below_drewN | apply below_drew1) | exact HB.out)) hb); clear HB; have HB := n0_; clear n0_; (try clear hb); (try clear hb2); (try clear hk); (try clear hi)) | (go_at_call 12; (with_reducible refine (impl_Like.calls k (t101 ++ (⟨#[120]⟩ : ByteArray)) (t105 ++ (⟨#[42]⟩ : ByteArray)) true _ A19.out).mono ?_); rintro e w29 ⟨rfl, hb⟩; have n0_ := Aside0.mk (below_step (by repeat (first | (with_reducible first | exact HB.out | apply below_alloc | apply pw_below_drewN | apply below_drew1) | exact HB.out)) hb); clear HB; have HB := n0_; clear n0_; (try clear hb); (try clear hb2); (try clear hk); (try clear hi)))
                      go_ret
                      exact ⟨by first | rfl | (simp [errW_none, errW_some] <;> rfl) | (simp [*, errW_none, errW_some] <;> rfl), by repeat (first | (with_reducible first | exact HB.out | apply below_alloc | apply pw_below_drewN | apply below_drew1) | exact HB.out)⟩
                    · rw [if_neg c22] at H
                      have c22b0 : decide (200 < (wrap64 ((t102.size : Int) + 1))) = false := decide_eq_false c22
                      clear c22
                      by_cases c30 : (wrap64 ((t101.size : Int) + 2)) > 200
                      · rw [if_pos c30] at H
                        have c30b0 : decide (200 < (wrap64 ((t101.size : Int) + 2))) = true := decide_eq_true c30
                        clear c30
                        obtain rfl := Option.some.inj H
                        go_enter Try.func3, Try.ntmps3
                        go_wp2_with (first | ((with_reducible refine gate_callee (f := 11) rfl ?_); refine goesL_ (some 12) rfl rfl Try.func11 (by kernel_rfl) rfl #[.slice A0 l0.length c0] rfl (by (try simp only [List.map_toArray, List.map_cons, List.map_nil]); first | done | rfl | (simp only [List.length_drop, List.length_take]; rfl)) ?_; (with_reducible refine (spec_DrawLike.calls k _ _ l0 t101 t102 _ ?side1 ?side2 A3.out).mono ?_); (case side1 => repeat (first | exact HR0.out | (with_reducible refine Kd.C_alloc ?_ _) | (with_reducible refine Kd.C_drewN ?_ _) | (with_reducible refine Kd.C_drew ?_))); (case side2 => exact HC0.out); rintro e w31 ⟨rfl, hb⟩; refine ⟨_, rfl, ?_⟩; have n0_ := Aside0.mk (below_step (by repeat (first | (with_reducible first | exact HB.out | apply below_alloc | apply pw_below_drewN | apply below_drew1) | exact HB.out)) hb); clear HB; have HB := n0_; clear n0_; (try clear hb); (try clear hb2); (try clear hk); (try clear hi)) | ((with_reducible refine gate_callee (f := 12) rfl ?_); refine goesL_ (some 17) rfl rfl Try.func12 (by kernel_rfl) rfl #[.string t101, .string t102] rfl (by (try simp only [List.map_toArray, List.map_cons, List.map_nil]); first | done | rfl | (simp only [List.length_drop, List.length_take]; rfl)) ?_; (with_reducible refine (impl_Like.calls k t101 t102 true _ A4.out).mono ?_); rintro e w32 ⟨rfl, hb⟩; refine ⟨_, rfl, ?_⟩; have n0_ := Aside0.mk (below_step (by repeat (first | (with_reducible first | exact HB.out | apply below_alloc | apply pw_below_drewN | apply below_drew1) | exact HB.out)) hb); clear HB; have HB := n0_; clear n0_; (try clear hb); (try clear hb2); (try clear hk); (try clear hi)) | ((with_reducible refine gate_callee (f := 13) rfl ?_); refine goesL_ (some 21) rfl rfl Try.func13 (by kernel_rfl) rfl #[.string t101, .string t102] rfl (by (try simp only [List.map_toArray, List.map_cons, List.map_nil]); first | done | rfl | (simp only [List.length_drop, List.length_take]; rfl)) ?_; (with_reducible refine (spec_Like.calls k t101 t102 t104 _ A5.out).mono ?_); rintro e w33 ⟨rfl, hb⟩; refine ⟨_, rfl, ?_⟩; have n0_ := Aside0.mk (below_step (by repeat (first | (with_reducible first | exact HB.out | apply below_alloc | apply pw_below_drewN | apply below_drew1) | exact HB.out)) hb); clear HB; have HB := n0_; clear n0_; (try clear hb); (try clear hb2); (try clear hk); (try clear hi)) | ((with_reducible refine gate_callee (f := 14) rfl ?_); refine goesL_ (some 24) rfl rfl Try.func14 (by kernel_rfl) rfl #[.string t101] rfl (by (try simp only [List.map_toArray, List.map_cons, List.map_nil]); first | done | rfl | (simp only [List.length_drop, List.length_take]; rfl)) ?_; (with_reducible refine (spec_PatternOf.calls k t101 t105 _ A7.out).mono ?_); rintro e w34 ⟨rfl, hb⟩; refine ⟨_, rfl, ?_⟩; have n0_ := Aside0.mk (below_step (by repeat (first | (with_reducible first | exact HB.out | apply below_alloc | apply pw_below_drewN | apply below_drew1) | exact HB.out)) hb); clear HB; have HB := n0_; clear n0_; (try clear hb); (try clear hb2); (try clear hk); (try clear hi)) | ((with_reducible refine gate_callee (f := 12) rfl ?_); refine goesL_ (some 31) rfl rfl Try.func12 (by kernel_rfl) rfl #[.string t101, .string t105] rfl (by (try simp only [List.map_toArray, List.map_cons, List.map_nil]); first | done | rfl | (simp only [List.length_drop, List.length_take]; rfl)) ?_; (with_reducible refine (impl_Like.calls k t101 t105 true _ A13.out).mono ?_); rintro e w35 ⟨rfl, hb⟩; refine ⟨_, rfl, ?_⟩; have n0_ := Aside0.mk (below_step (by repeat (first | (with_reducible first | exact HB.out | apply below_alloc | apply pw_below_drewN | apply below_drew1) | exact HB.out)) hb); clear HB; have HB := n0_; clear n0_; (try clear hb); (try clear hb2); (try clear hk); (try clear hi)) | (go_at_call 12; (with_reducible refine (impl_Like.calls k (t101 ++ (⟨#[120]⟩ : ByteArray)) t105 false _ A16.out).mono ?_); rintro e w36 ⟨rfl, hb⟩; have n0_ := Aside0.mk (below_step (by repeat (first | (with_reducible first | exact HB.out | apply below_alloc | apply pw_below_drewN | apply below_drew1) | exact HB.out)) hb); clear HB; have HB := n0_; clear n0_; (try clear hb); (try clear hb2); (try clear hk); (try clear hi)) | (go_at_call 12; (with_reducible refine (impl_Like.calls k (t101 ++ (⟨#[120]⟩ : ByteArray)) (t105 ++ (⟨#[42]⟩ : ByteArray)) true _ A19.out).mono ?_); rintro e w37 ⟨rfl, hb⟩; have n0_ := Aside0.mk (below_step (by repeat (first | (with_reducible first | exact HB.out | apply below_alloc | apply pw_below_drewN | apply below_drew1) | exact HB.out)) hb); clear HB; have HB := n0_; clear n0_; (try clear hb); (try clear hb2); (try clear hk); (try clear hi)))
                        go_ret
                        exact ⟨by first | rfl | (simp [errW_none, errW_some] <;> rfl) | (simp [*, errW_none, errW_some] <;> rfl), by repeat (first | (with_reducible first | exact HB.out | apply below_alloc | apply pw_below_drewN | apply below_drew1) | exact HB.out)⟩
                      · rw [if_neg c30] at H
                        have c30b0 : decide (200 < (wrap64 ((t101.size : Int) + 2))) = false := decide_eq_false c30
                        clear c30
                        by_cases c38 : t101.size + 2 ≤ 9223372036854775807
                        · rw [if_pos c38] at H
                          have c38b0 := eq_true c38
                          have c38b1 : decide (t101.size + 2 ≤ 9223372036854775807) = true := decide_eq_true c38
                          try (have c38b2 : (9223372036854775807 < t101.size + 2) = False := eq_false (Nat.not_lt.2 c38); have c38b9 : decide (200 < (t101.size : Int) + 2) = false := by rw [← c30b0, show wrap64 ((t101.size : Int) + 2) = (t101.size : Int) + 2 from (by unfold wrap64; omega)])
                          by_cases c39 : t102.size + 1 ≤ 9223372036854775807
                          · rw [if_pos c39] at H
                            have c39b0 := eq_true c39
                            have c39b1 : decide (t102.size + 1 ≤ 9223372036854775807) = true := decide_eq_true c39
                            try (have c39b2 : (9223372036854775807 < t102.size + 1) = False := eq_false (Nat.not_lt.2 c39); have c39b9 : decide (200 < (t102.size : Int) + 1) = false := by rw [← c22b0, show wrap64 ((t102.size : Int) + 1) = (t102.size : Int) + 1 from (by unfold wrap64; omega)])
                            replace H := Option.bind_eq_some_iff.mp H
                            obtain ⟨t109, A400, H⟩ := H
                            replace H : (some t109) = some r := H
                            have A40 := Aside0.mk A400
                            clear A400
                            obtain rfl := Option.some.inj H
                            go_enter Try.func3, Try.ntmps3
                            go_wp2_with (first | ((with_reducible refine gate_callee (f := 11) rfl ?_); refine goesL_ (some 12) rfl rfl Try.func11 (by kernel_rfl) rfl #[.slice A0 l0.length c0] rfl (by (try simp only [List.map_toArray, List.map_cons, List.map_nil]); first | done | rfl | (simp only [List.length_drop, List.length_take]; rfl)) ?_; (with_reducible refine (spec_DrawLike.calls k _ _ l0 t101 t102 _ ?side1 ?side2 A3.out).mono ?_); (case side1 => repeat (first | exact HR0.out | (with_reducible refine Kd.C_alloc ?_ _) | (with_reducible refine Kd.C_drewN ?_ _) | (with_reducible refine Kd.C_drew ?_))); (case side2 => exact HC0.out); rintro e w41 ⟨rfl, hb⟩; refine ⟨_, rfl, ?_⟩; have n0_ := Aside0.mk (below_step (by repeat (first | (with_reducible first | exact HB.out | apply below_alloc | apply pw_below_drewN | apply below_drew1) | exact HB.out)) hb); clear HB; have HB := n0_; clear n0_; (try clear hb); (try clear hb2); (try clear hk); (try clear hi)) | ((with_reducible refine gate_callee (f := 12) rfl ?_); refine goesL_ (some 17) rfl rfl Try.func12 (by kernel_rfl) rfl #[.string t101, .string t102] rfl (by (try simp only [List.map_toArray, List.map_cons, List.map_nil]); first | done | rfl | (simp only [List.length_drop, List.length_take]; rfl)) ?_; (with_reducible refine (impl_Like.calls k t101 t102 true _ A4.out).mono ?_); rintro e w42 ⟨rfl, hb⟩; refine ⟨_, rfl, ?_⟩; have n0_ := Aside0.mk (below_step (by repeat (first | (with_reducible first | exact HB.out | apply below_alloc | apply pw_below_drewN | apply below_drew1) | exact HB.out)) hb); clear HB; have HB := n0_; clear n0_; (try clear hb); (try clear hb2); (try clear hk); (try clear hi)) | ((with_reducible refine gate_callee (f := 13) rfl ?_); refine goesL_ (some 21) rfl rfl Try.func13 (by kernel_rfl) rfl #[.string t101, .string t102] rfl (by (try simp only [List.map_toArray, List.map_cons, List.map_nil]); first | done | rfl | (simp only [List.length_drop, List.length_take]; rfl)) ?_; (with_reducible refine (spec_Like.calls k t101 t102 t104 _ A5.out).mono ?_); rintro e w43 ⟨rfl, hb⟩; refine ⟨_, rfl, ?_⟩; have n0_ := Aside0.mk (below_step (by repeat (first | (with_reducible first | exact HB.out | apply below_alloc | apply pw_below_drewN | apply below_drew1) | exact HB.out)) hb); clear HB; have HB := n0_; clear n0_; (try clear hb); (try clear hb2); (try clear hk); (try clear hi)) | ((with_reducible refine gate_callee (f := 14) rfl ?_); refine goesL_ (some 24) rfl rfl Try.func14 (by kernel_rfl) rfl #[.string t101] rfl (by (try simp only [List.map_toArray, List.map_cons, List.map_nil]); first | done | rfl | (simp only [List.length_drop, List.length_take]; rfl)) ?_; (with_reducible refine (spec_PatternOf.calls k t101 t105 _ A7.out).mono ?_); rintro e w44 ⟨rfl, hb⟩; refine ⟨_, rfl, ?_⟩; have n0_ := Aside0.mk (below_step (by repeat (first | (with_reducible first | exact HB.out | apply below_alloc | apply pw_below_drewN | apply below_drew1) | exact HB.out)) hb); clear HB; have HB := n0_; clear n0_; (try clear hb); (try clear hb2); (try clear hk); (try clear hi)) | ((with_reducible refine gate_callee (f := 12) rfl ?_); refine goesL_ (some 31) rfl rfl Try.func12 (by kernel_rfl) rfl #[.string t101, .string t105] rfl (by (try simp only [List.map_toArray, List.map_cons, List.map_nil]); first | done | rfl | (simp only [List.length_drop, List.length_take]; rfl)) ?_; (with_reducible refine (impl_Like.calls k t101 t105 true _ A13.out).mono ?_); rintro e w45 ⟨rfl, hb⟩; refine ⟨_, rfl, ?_⟩; have n0_ := Aside0.mk (below_step (by repeat (first | (with_reducible first | exact HB.out | apply below_alloc | apply pw_below_drewN | apply below_drew1) | exact HB.out)) hb); clear HB; have HB := n0_; clear n0_; (try clear hb); (try clear hb2); (try clear hk); (try clear hi)) | (go_at_call 12; (with_reducible refine (impl_Like.calls k (t101 ++ (⟨#[120]⟩ : ByteArray)) t105 false _ A16.out).mono ?_); rintro e w46 ⟨rfl, hb⟩; have n0_ := Aside0.mk (below_step (by repeat (first | (with_reducible first | exact HB.out | apply below_alloc | apply pw_below_drewN | apply below_drew1) | exact HB.out)) hb); clear HB; have HB := n0_; clear n0_; (try clear hb); (try clear hb2); (try clear hk); (try clear hi)) | (go_at_call 12; (with_reducible refine (impl_Like.calls k (t101 ++ (⟨#[120]⟩ : ByteArray)) (t105 ++ (⟨#[42]⟩ : ByteArray)) true _ A19.out).mono ?_); rintro e w47 ⟨rfl, hb⟩; have n0_ := Aside0.mk (below_step (by repeat (first | (with_reducible first | exact HB.out | apply below_alloc | apply pw_below_drewN | apply below_drew1) | exact HB.out)) hb); clear HB; have HB := n0_; clear n0_; (try clear hb); (try clear hb2); (try clear hk); (try clear hi)) | (go_at_call 12; (with_reducible refine (impl_Like.calls k (t101 ++ (⟨#[121, 122]⟩ : ByteArray)) (t102 ++ (⟨#[42]⟩ : ByteArray)) t109 _ A40.out).mono ?_); rintro e w48 ⟨rfl, hb⟩; have n0_ := Aside0.mk (below_step (by repeat (first | (with_reducible first | exact HB.out | apply below_alloc | apply pw_below_drewN | apply below_drew1) | exact HB.out)) hb); clear HB; have HB := n0_; clear n0_; (try clear hb); (try clear hb2); (try clear hk); (try clear hi)))
                            go_ret
                            exact ⟨by first | rfl | (simp [errW_none, errW_some] <;> rfl) | (simp [*, errW_none, errW_some] <;> rfl), by repeat (first | (with_reducible first | exact HB.out | apply below_alloc | apply pw_below_drewN | apply below_drew1) | exact HB.out)⟩
                          · rw [if_neg c39] at H
                            exact absurd H (by simp)
                        · rw [if_neg c38] at H
                          exact absurd H (by simp)
                  · replace c21 := Bool.eq_false_iff.mpr c21
                    subst c21
                    have H1 : (some true) = some r := by rw [if_neg (show ¬ (false = true) by decide)] at H; exact H
                    clear H
                    have H := H1
                    clear H1
                    obtain rfl := Option.some.inj H
                    go_enter Try.func3, Try.ntmps3
                    go_wp2_with (first | ((with_reducible refine gate_callee (f := 11) rfl ?_); refine goesL_ (some 12) rfl rfl Try.func11 (by kernel_rfl) rfl #[.slice A0 l0.length c0] rfl (by (try simp only [List.map_toArray, List.map_cons, List.map_nil]); first | done | rfl | (simp only [List.length_drop, List.length_take]; rfl)) ?_; (with_reducible refine (spec_DrawLike.calls k _ _ l0 t101 t102 _ ?side1 ?side2 A3.out).mono ?_); (case side1 => repeat (first | exact HR0.out | (with_reducible refine Kd.C_alloc ?_ _) | (with_reducible refine Kd.C_drewN ?_ _) | (with_reducible refine Kd.C_drew ?_))); (case side2 => exact HC0.out); rintro e w49 ⟨rfl, hb⟩; refine ⟨_, rfl, ?_⟩; have n0_ := Aside0.mk (below_step (by repeat (first | (with_reducible first | exact HB.out | apply below_alloc | apply pw_below_drewN | apply below_drew1) | exact HB.out)) hb); clear HB; have HB := n0_; clear n0_; (try clear hb); (try clear hb2); (try clear hk); (try clear hi)) | ((with_reducible refine gate_callee (f := 12) rfl ?_); refine goesL_ (some 17) rfl rfl Try.func12 (by kernel_rfl) rfl #[.string t101, .string t102] rfl (by (try simp only [List.map_toArray, List.map_cons, List.map_nil]); first | done | rfl | (simp only [List.length_drop, List.length_take]; rfl)) ?_; (with_reducible refine (impl_Like.calls k t101 t102 false _ A4.out).mono ?_); rintro e w50 ⟨rfl, hb⟩; refine ⟨_, rfl, ?_⟩; have n0_ := Aside0.mk (below_step (by repeat (first | (with_reducible first | exact HB.out | apply below_alloc | apply pw_below_drewN | apply below_drew1) | exact HB.out)) hb); clear HB; have HB := n0_; clear n0_; (try clear hb); (try clear hb2); (try clear hk); (try clear hi)) | ((with_reducible refine gate_callee (f := 13) rfl ?_); refine goesL_ (some 21) rfl rfl Try.func13 (by kernel_rfl) rfl #[.string t101, .string t102] rfl (by (try simp only [List.map_toArray, List.map_cons, List.map_nil]); first | done | rfl | (simp only [List.length_drop, List.length_take]; rfl)) ?_; (with_reducible refine (spec_Like.calls k t101 t102 t104 _ A5.out).mono ?_); rintro e w51 ⟨rfl, hb⟩; refine ⟨_, rfl, ?_⟩; have n0_ := Aside0.mk (below_step (by repeat (first | (with_reducible first | exact HB.out | apply below_alloc | apply pw_below_drewN | apply below_drew1) | exact HB.out)) hb); clear HB; have HB := n0_; clear n0_; (try clear hb); (try clear hb2); (try clear hk); (try clear hi)) | ((with_reducible refine gate_callee (f := 14) rfl ?_); refine goesL_ (some 24) rfl rfl Try.func14 (by kernel_rfl) rfl #[.string t101] rfl (by (try simp only [List.map_toArray, List.map_cons, List.map_nil]); first | done | rfl | (simp only [List.length_drop, List.length_take]; rfl)) ?_; (with_reducible refine (spec_PatternOf.calls k t101 t105 _ A7.out).mono ?_); rintro e w52 ⟨rfl, hb⟩; refine ⟨_, rfl, ?_⟩; have n0_ := Aside0.mk (below_step (by repeat (first | (with_reducible first | exact HB.out | apply below_alloc | apply pw_below_drewN | apply below_drew1) | exact HB.out)) hb); clear HB; have HB := n0_; clear n0_; (try clear hb); (try clear hb2); (try clear hk); (try clear hi)) | ((with_reducible refine gate_callee (f := 12) rfl ?_); refine goesL_ (some 31) rfl rfl Try.func12 (by kernel_rfl) rfl #[.string t101, .string t105] rfl (by (try simp only [List.map_toArray, List.map_cons, List.map_nil]); first | done | rfl | (simp only [List.length_drop, List.length_take]; rfl)) ?_; (with_reducible refine (impl_Like.calls k t101 t105 true _ A13.out).mono ?_); rintro e w53 ⟨rfl, hb⟩; refine ⟨_, rfl, ?_⟩; have n0_ := Aside0.mk (below_step (by repeat (first | (with_reducible first | exact HB.out | apply below_alloc | apply pw_below_drewN | apply below_drew1) | exact HB.out)) hb); clear HB; have HB := n0_; clear n0_; (try clear hb); (try clear hb2); (try clear hk); (try clear hi)) | (go_at_call 12; (with_reducible refine (impl_Like.calls k (t101 ++ (⟨#[120]⟩ : ByteArray)) t105 false _ A16.out).mono ?_); rintro e w54 ⟨rfl, hb⟩; have n0_ := Aside0.mk (below_step (by repeat (first | (with_reducible first | exact HB.out | apply below_alloc | apply pw_below_drewN | apply below_drew1) | exact HB.out)) hb); clear HB; have HB := n0_; clear n0_; (try clear hb); (try clear hb2); (try clear hk); (try clear hi)) | (go_at_call 12; (with_reducible refine (impl_Like.calls k (t101 ++ (⟨#[120]⟩ : ByteArray)) (t105 ++ (⟨#[42]⟩ : ByteArray)) true _ A19.out).mono ?_); rintro e w55 ⟨rfl, hb⟩; have n0_ := Aside0.mk (below_step (by repeat (first | (with_reducible first | exact HB.out | apply below_alloc | apply pw_below_drewN | apply below_drew1) | exact HB.out)) hb); clear HB; have HB := n0_; clear n0_; (try clear hb); (try clear hb2); (try clear hk); (try clear hi)))
                    go_ret
                    exact ⟨by first | rfl | (simp [errW_none, errW_some] <;> rfl) | (simp [*, errW_none, errW_some] <;> rfl), by repeat (first | (with_reducible first | exact HB.out | apply below_alloc | apply pw_below_drewN | apply below_drew1) | exact HB.out)⟩
                · replace c20 := Bool.eq_false_iff.mpr c20
                  subst c20
                  have H1 : (none) = some r := by rw [if_neg (show ¬ (false = true) by decide)] at H; exact H
                  clear H
                  have H := H1
                  clear H1
                  exact absurd H (by simp)
              · rw [if_neg c18] at H
                exact absurd H (by simp)
          · rw [if_neg c15] at H
            exact absurd H (by simp)
        · replace c14 := Bool.eq_false_iff.mpr c14
          subst c14
          have H1 : (none) = some r := by rw [if_neg (show ¬ (false = true) by decide)] at H; exact H
          clear H
          have H := H1
          clear H1
          exact absurd H (by simp)

end Go.Proofs.Ytccbjchlcelkgaa.Pr
