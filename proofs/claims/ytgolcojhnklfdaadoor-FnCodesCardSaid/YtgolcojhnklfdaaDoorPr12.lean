-- Written by mkprint.py (a program of this repo, which drives the print.py of the kit): Lean checks it.
import Derived.Test.YtgolcojhnklfdaaDoorPr0x
import Derived.Test.YtgolcojhnklfdaaDoorHitoa
import Derived.Test.YtgolcojhnklfdaaDoorPr26
import Derived.Test.YtgolcojhnklfdaaDoorPr27
import Derived.Test.YtgolcojhnklfdaaDoorPr28
namespace Go.Proofs.YtgolcojhnklfdaaDoor.Pr
open Go.RowKit Go.Proofs.YtgolcojhnklfdaaDoorW.PrintWords Go.Proofs.YtgolcojhnklfdaaDoorW.PrintLast Go.Proofs.YtgolcojhnklfdaaDoorW.PrintMore
attribute [local go_sem] max2_int min2_int max_two min_two max_three min_three max_four min_four   -- for this text's walks alone
set_option linter.unusedVariables false
set_option linter.unusedSimpArgs false

/-! ### impl_CodeOf: function 12 -/
mutual
def impl_CodeOf.j0 : Nat → List Int → Int → Int → Bool → Option (ByteArray)
  | 0, _, _, _, _ => none
  | k + 1, x0, x1, x2, x32 => if x32 = true then (some (⟨#[]⟩ : ByteArray)) else (impl_CodeOf.l0 k x0 x1 1 x2 0)
def impl_CodeOf.l0 : Nat → List Int → Int → Int → Int → Int → Option (ByteArray)
  | 0, _, _, _, _, _ => none
  | k + 1, x0, x1, x7, x33, x34 => if x34 < x33 then (impl_CodeOf.l0 k x0 x1 (wrap64 (x7 * 10)) x33 (wrap64 (x34 + 1))) else ((impl_ybytes.f x1).bind fun t101 => ((impl_ybytes.f (x1 / 4294967296)).bind fun t104 => (if t101.length + t104.length < 140737488355328 then ((impl_Mac.f k x0 (t101 ++ t104)).bind fun t110 => ((impl_ynumber.f t110).bind fun t113 => (if x7 = 0 then (none) else ((strconv_Itoa.f (wrap64 (x7 + (Int.tmod t113 x7)))).bind fun t114 => (if 1 ≤ (t114.size : Int) then (some (t114.extract 1 t114.size)) else (none)))))) else (none))))
end
def impl_CodeOf.f (k : Nat) (l0 : List Int) (a1 : Int) (a2 : Int) : Option (ByteArray) := if (l0.length : Int) < 1 then (impl_CodeOf.j0 k l0 a1 a2 true) else (if (l0.length : Int) > 64 then (impl_CodeOf.j0 k l0 a1 a2 true) else (if a1 < 0 then (impl_CodeOf.j0 k l0 a1 a2 true) else (if a1 > 1000000000000 then (impl_CodeOf.j0 k l0 a1 a2 true) else (if a2 < 4 then (impl_CodeOf.j0 k l0 a1 a2 true) else (impl_CodeOf.j0 k l0 a1 a2 (decide (a2 > 8)))))))
theorem impl_CodeOf.mono_l : ∀ k, (∀ y0 y1 y2 y3, LeO (impl_CodeOf.j0 k y0 y1 y2 y3) (impl_CodeOf.j0 (k + 1) y0 y1 y2 y3)) ∧ (∀ y0 y1 y2 y3 y4, LeO (impl_CodeOf.l0 k y0 y1 y2 y3 y4) (impl_CodeOf.l0 (k + 1) y0 y1 y2 y3 y4))
  | 0 => ⟨fun _ _ _ _ r h => by simp [impl_CodeOf.j0] at h, fun _ _ _ _ _ r h => by simp [impl_CodeOf.l0] at h⟩
  | k + 1 => by
    obtain ⟨ih0, ih1⟩ := impl_CodeOf.mono_l k
    refine ⟨?_, ?_⟩
    · intro y0 y1 y2 y3
      unfold impl_CodeOf.j0
      repeat' first
      | (with_reducible exact ih0 _ _ _ _)
      | (with_reducible exact ih1 _ _ _ _ _)
      | (with_reducible exact impl_Mac.mono _ _ _)
      | (with_reducible exact LeO.refl _)
      | (with_reducible exact LeO.none _)
      | (with_reducible refine LeO.ite ?_ ?_)
      | (with_reducible refine LeO.bind ?_ (fun _ => ?_))
      | exact ih0 _ _ _ _
      | exact ih1 _ _ _ _ _
      | exact impl_Mac.mono _ _ _
      | exact LeO.none _
      | refine LeO.ite ?_ ?_
      | refine LeO.bind ?_ (fun _ => ?_)
    · intro y0 y1 y2 y3 y4
      unfold impl_CodeOf.l0
      repeat' first
      | (with_reducible exact ih0 _ _ _ _)
      | (with_reducible exact ih1 _ _ _ _ _)
      | (with_reducible exact impl_Mac.mono _ _ _)
      | (with_reducible exact LeO.refl _)
      | (with_reducible exact LeO.none _)
      | (with_reducible refine LeO.ite ?_ ?_)
      | (with_reducible refine LeO.bind ?_ (fun _ => ?_))
      | exact ih0 _ _ _ _
      | exact ih1 _ _ _ _ _
      | exact impl_Mac.mono _ _ _
      | exact LeO.none _
      | refine LeO.ite ?_ ?_
      | refine LeO.bind ?_ (fun _ => ?_)
theorem impl_CodeOf.mono : ∀ a0 a1 a2 k, LeO (impl_CodeOf.f k a0 a1 a2) (impl_CodeOf.f (k + 1) a0 a1 a2) := by
  intro a0 a1 a2 k
  obtain ⟨ih0, ih1⟩ := impl_CodeOf.mono_l k
  unfold impl_CodeOf.f
  repeat' first
      | (with_reducible exact ih0 _ _ _ _)
      | (with_reducible exact ih1 _ _ _ _ _)
      | (with_reducible exact impl_Mac.mono _ _ _)
      | (with_reducible exact LeO.refl _)
      | (with_reducible exact LeO.none _)
      | (with_reducible refine LeO.ite ?_ ?_)
      | (with_reducible refine LeO.bind ?_ (fun _ => ?_))
      | exact ih0 _ _ _ _
      | exact ih1 _ _ _ _ _
      | exact impl_Mac.mono _ _ _
      | exact LeO.none _
      | refine LeO.ite ?_ ?_
      | refine LeO.bind ?_ (fun _ => ?_)
set_option maxHeartbeats 8000000 in
set_option maxRecDepth 100000 in
theorem impl_CodeOf.calls (k : Nat) (A0 : Option Addr) (c0 : Nat) (l0 : List Int) (a1 : Int) (a2 : Int) (r : ByteArray) (w : World) (htab : TabW w) (hr0 : Kd.C (Kd.int .u8) w A0 l0.length l0) (hc0 : l0.length ≤ c0) (h : impl_CodeOf.f k l0 a1 a2 = some r) :
    Calls Tryd.prog 12 #[.slice A0 l0.length c0, .int .i64 a1, .int .i64 a2] w fun e w' => e = .returned (.string r) ∧ Below w.heap.size w w' := by
  have HTAB := Aside0.mk htab
  clear htab
  have HR0 := Aside0.mk hr0
  have HC0 := Aside0.mk hc0
  clear hr0 hc0
  have HB := Aside0.mk (Below.refl w.heap.size w)
  have H : (if (l0.length : Int) < 1 then (impl_CodeOf.j0 k l0 a1 a2 true) else (if (l0.length : Int) > 64 then (impl_CodeOf.j0 k l0 a1 a2 true) else (if a1 < 0 then (impl_CodeOf.j0 k l0 a1 a2 true) else (if a1 > 1000000000000 then (impl_CodeOf.j0 k l0 a1 a2 true) else (if a2 < 4 then (impl_CodeOf.j0 k l0 a1 a2 true) else (impl_CodeOf.j0 k l0 a1 a2 (decide (a2 > 8)))))))) = some r := h
  clear h
  have HC4 := Aside0.mk H
  clear H
  go_enter Tryd.func12, Tryd.ntmps12
  go_upto_region 1 with (fail)
  go_cut [32] (fun v32 wc => ∃ (kq : Nat) (x32_3 : Bool), v32 = .bool x32_3 ∧ Aside0 (impl_CodeOf.j0 kq l0 a1 a2 x32_3 = some r) ∧ Aside0 (kq ≤ k) ∧ Aside0 (Below w.heap.size w wc))
  case first =>
    have H := HC4.out
    clear HC4
    by_cases c5 : (l0.length : Int) < 1
    · rw [if_pos c5] at H
      have c5b0 : decide ((l0.length : Int) < 1) = true := decide_eq_true c5
      have c5b1 : decide (l0.length < 1) = true := decide_eq_true (by omega)
      clear c5
      (first | rw [c5b0] | (simp only [i64_w, i32_w]; rw [c5b0]) | skip)
      have H' := Aside0.mk H
      clear H
      go_wp2
      go_meet
      case rel => exact ⟨_, (true), (by first | rfl | (simp; done) | (simp [*]; done)), H', ⟨by first | omega | exact Nat.le_refl _⟩, ⟨by repeat (first | (with_reducible first | exact HB.out | apply below_alloc | apply pw_below_drewN | apply below_drew1) | exact HB.out)⟩⟩
    · rw [if_neg c5] at H
      have c5b0 : decide ((l0.length : Int) < 1) = false := decide_eq_false c5
      have c5b1 : decide (l0.length < 1) = false := decide_eq_false (by omega)
      clear c5
      (first | rw [c5b0] | (simp only [i64_w, i32_w]; rw [c5b0]) | skip)
      by_cases c6 : (l0.length : Int) > 64
      · rw [if_pos c6] at H
        have c6b0 : decide (64 < (l0.length : Int)) = true := decide_eq_true c6
        have c6b1 : decide (64 < l0.length) = true := decide_eq_true (by omega)
        clear c6
        have H' := Aside0.mk H
        clear H
        go_wp2
        go_meet
        case rel => exact ⟨_, (true), (by first | rfl | (simp; done) | (simp [*]; done)), H', ⟨by first | omega | exact Nat.le_refl _⟩, ⟨by repeat (first | (with_reducible first | exact HB.out | apply below_alloc | apply pw_below_drewN | apply below_drew1) | exact HB.out)⟩⟩
      · rw [if_neg c6] at H
        have c6b0 : decide (64 < (l0.length : Int)) = false := decide_eq_false c6
        have c6b1 : decide (64 < l0.length) = false := decide_eq_false (by omega)
        clear c6
        by_cases c7 : a1 < 0
        · rw [if_pos c7] at H
          have c7b0 : decide (a1 < 0) = true := decide_eq_true c7
          clear c7
          have H' := Aside0.mk H
          clear H
          go_wp2
          go_meet
          case rel => exact ⟨_, (true), (by first | rfl | (simp; done) | (simp [*]; done)), H', ⟨by first | omega | exact Nat.le_refl _⟩, ⟨by repeat (first | (with_reducible first | exact HB.out | apply below_alloc | apply pw_below_drewN | apply below_drew1) | exact HB.out)⟩⟩
        · rw [if_neg c7] at H
          have c7b0 : decide (a1 < 0) = false := decide_eq_false c7
          clear c7
          by_cases c8 : a1 > 1000000000000
          · rw [if_pos c8] at H
            have c8b0 : decide (1000000000000 < a1) = true := decide_eq_true c8
            clear c8
            have H' := Aside0.mk H
            clear H
            go_wp2
            go_meet
            case rel => exact ⟨_, (true), (by first | rfl | (simp; done) | (simp [*]; done)), H', ⟨by first | omega | exact Nat.le_refl _⟩, ⟨by repeat (first | (with_reducible first | exact HB.out | apply below_alloc | apply pw_below_drewN | apply below_drew1) | exact HB.out)⟩⟩
          · rw [if_neg c8] at H
            have c8b0 : decide (1000000000000 < a1) = false := decide_eq_false c8
            clear c8
            by_cases c9 : a2 < 4
            · rw [if_pos c9] at H
              have c9b0 : decide (a2 < 4) = true := decide_eq_true c9
              clear c9
              have H' := Aside0.mk H
              clear H
              go_wp2
              go_meet
              case rel => exact ⟨_, (true), (by first | rfl | (simp; done) | (simp [*]; done)), H', ⟨by first | omega | exact Nat.le_refl _⟩, ⟨by repeat (first | (with_reducible first | exact HB.out | apply below_alloc | apply pw_below_drewN | apply below_drew1) | exact HB.out)⟩⟩
            · rw [if_neg c9] at H
              have c9b0 : decide (a2 < 4) = false := decide_eq_false c9
              clear c9
              have H' := Aside0.mk H
              clear H
              go_wp2
              go_meet
              case rel => exact ⟨_, (decide (a2 > 8)), (by first | rfl | (simp; done) | (simp [*]; done)), H', ⟨by first | omega | exact Nat.le_refl _⟩, ⟨by repeat (first | (with_reducible first | exact HB.out | apply below_alloc | apply pw_below_drewN | apply below_drew1) | exact HB.out)⟩⟩
  case rest =>
    clear HC4
    try clear c1
    try clear p2
    try clear c5
    try clear c5b0
    try clear c5b1
    try clear c6
    try clear c6b0
    try clear c6b1
    try clear c7
    try clear c7b0
    try clear c8
    try clear c8b0
    try clear c9
    try clear c9b0
    obtain ⟨kq, x32_3, rfl, HA, HJ3, HB⟩ := hcut
    cases kq with
    | zero => exact absurd HA.out (by simp [impl_CodeOf.j0])
    | succ kj3 =>
      have H := HA.out
      clear HA
      simp only [impl_CodeOf.j0] at H
      by_cases c10 : x32_3 = true
      · subst c10
        have H1 : (some (⟨#[]⟩ : ByteArray)) = some r := by rw [if_pos rfl] at H; exact H
        clear H
        have H := H1
        clear H1
        obtain rfl := Option.some.inj H
        go_wp2
        go_ret
        exact ⟨by first | rfl | (simp [errW_none, errW_some] <;> rfl) | (simp [*, errW_none, errW_some] <;> rfl), by repeat (first | (with_reducible first | exact HB.out | apply below_alloc | apply pw_below_drewN | apply below_drew1) | exact HB.out)⟩
      · replace c10 := Bool.eq_false_iff.mpr c10
        subst c10
        have H1 : (impl_CodeOf.l0 kj3 l0 a1 1 a2 0) = some r := by rw [if_neg (show ¬ (false = true) by decide)] at H; exact H
        clear H
        have H := H1
        clear H1
        have H' := Aside0.mk H
        clear H
        go_wp2
        go_loopg [7, 34] kj3 (fun kq v7 v34 w' => ∃ (x7_2 : Int) (x34_2 : Int), v7 = .int .i64 x7_2 ∧ v34 = .int .i64 x34_2 ∧ Aside0 (impl_CodeOf.l0 kq l0 a1 x7_2 a2 x34_2 = some r) ∧ Aside0 (kq ≤ kj3) ∧ Aside0 (Below w.heap.size w w'))
        case atStart => exact ⟨(1), (0), (by first | rfl | (simp; done) | (simp [*]; done)), (by first | rfl | (simp; done) | (simp [*]; done)), H', ⟨Nat.le_refl _⟩, ⟨by repeat (first | (with_reducible first | exact HB.out | apply below_alloc | apply pw_below_drewN | apply below_drew1) | exact HB.out)⟩⟩
        case round =>
          clear H'
          try clear c1
          try clear p2
          try clear c5
          try clear c5b0
          try clear c5b1
          try clear c6
          try clear c6b0
          try clear c6b1
          try clear c7
          try clear c7b0
          try clear c8
          try clear c8b0
          try clear c9
          try clear c9b0
          try clear c10
          try clear p2
          obtain ⟨x7_2, x34_2, rfl, rfl, HA, HK2, HB⟩ := hrel
          cases gk with
          | zero => exact absurd HA.out (by simp [impl_CodeOf.l0])
          | succ k2 =>
            have H := HA.out
            clear HA
            simp only [impl_CodeOf.l0] at H
            by_cases c11 : x34_2 < a2
            · rw [if_pos c11] at H
              have c11b0 : decide (x34_2 < a2) = true := decide_eq_true c11
              clear c11
              have H' := Aside0.mk H
              clear H
              go_wp2
              go_roundg k2
              case measure => have := HJ3.out; have := HK2.out; omega
              case rel => exact ⟨(wrap64 (x7_2 * 10)), (wrap64 (x34_2 + 1)), (by first | rfl | (simp; done) | (simp [*]; done)), (by first | rfl | (simp; done) | (simp [*]; done)), H', ⟨by have := HJ3.out; have := HK2.out; omega⟩, ⟨by repeat (first | (with_reducible first | exact HB.out | apply below_alloc | apply pw_below_drewN | apply below_drew1) | exact HB.out)⟩⟩
            · rw [if_neg c11] at H
              have c11b0 : decide (x34_2 < a2) = false := decide_eq_false c11
              clear c11
              replace H := Option.bind_eq_some_iff.mp H
              obtain ⟨t101, A120, H⟩ := H
              replace H : ((impl_ybytes.f (a1 / 4294967296)).bind fun t104 => (if t101.length + t104.length < 140737488355328 then ((impl_Mac.f k2 l0 (t101 ++ t104)).bind fun t110 => ((impl_ynumber.f t110).bind fun t113 => (if x7_2 = 0 then (none) else ((strconv_Itoa.f (wrap64 (x7_2 + (Int.tmod t113 x7_2)))).bind fun t114 => (if 1 ≤ (t114.size : Int) then (some (t114.extract 1 t114.size)) else (none)))))) else (none))) = some r := H
              have A12 := Aside0.mk A120
              clear A120
              replace H := Option.bind_eq_some_iff.mp H
              obtain ⟨t104, A130, H⟩ := H
              replace H : (if t101.length + t104.length < 140737488355328 then ((impl_Mac.f k2 l0 (t101 ++ t104)).bind fun t110 => ((impl_ynumber.f t110).bind fun t113 => (if x7_2 = 0 then (none) else ((strconv_Itoa.f (wrap64 (x7_2 + (Int.tmod t113 x7_2)))).bind fun t114 => (if 1 ≤ (t114.size : Int) then (some (t114.extract 1 t114.size)) else (none)))))) else (none)) = some r := H
              have A13 := Aside0.mk A130
              clear A130
              by_cases c14 : t101.length + t104.length < 140737488355328
              · rw [if_pos c14] at H
                have LMc14 := Aside0.mk c14
                clear c14
                obtain ⟨y107, hy107⟩ : ∃ y_ : List Int, y_ = (t101 ++ t104) := ⟨_, rfl⟩
                replace H : ((impl_Mac.f k2 l0 y107).bind fun t110 => ((impl_ynumber.f t110).bind fun t113 => (if x7_2 = 0 then (none) else ((strconv_Itoa.f (wrap64 (x7_2 + (Int.tmod t113 x7_2)))).bind fun t114 => (if 1 ≤ (t114.size : Int) then (some (t114.extract 1 t114.size)) else (none)))))) = some r := by first | (rw [hy107]; with_reducible exact H) | (have H2_ := (Option.bind_some _ _).symm.trans H; rw [hy107]; with_reducible exact H2_) | (have H2_ := (Option.bind_some _ _).symm.trans H; with_reducible exact H2_) | with_reducible exact H | (rw [hy107]; exact H) | exact H
                have Ny107 := Aside0.mk hy107
                clear hy107
                replace H := Option.bind_eq_some_iff.mp H
                obtain ⟨t110, A150, H⟩ := H
                replace H : ((impl_ynumber.f t110).bind fun t113 => (if x7_2 = 0 then (none) else ((strconv_Itoa.f (wrap64 (x7_2 + (Int.tmod t113 x7_2)))).bind fun t114 => (if 1 ≤ (t114.size : Int) then (some (t114.extract 1 t114.size)) else (none))))) = some r := H
                have A15 := Aside0.mk A150
                clear A150
                replace H := Option.bind_eq_some_iff.mp H
                obtain ⟨t113, A160, H⟩ := H
                replace H : (if x7_2 = 0 then (none) else ((strconv_Itoa.f (wrap64 (x7_2 + (Int.tmod t113 x7_2)))).bind fun t114 => (if 1 ≤ (t114.size : Int) then (some (t114.extract 1 t114.size)) else (none)))) = some r := H
                have A16 := Aside0.mk A160
                clear A160
                by_cases c17 : x7_2 = 0
                · rw [if_pos c17] at H
                  exact absurd H (by simp)
                · rw [if_neg c17] at H
                  have c17b0 : (x7_2 == 0) = false := beq_eq_false_iff_ne.mpr c17
                  have c17b1 : (x7_2 != 0) = true := bne_iff_ne.mpr c17
                  replace H := Option.bind_eq_some_iff.mp H
                  obtain ⟨t114, A180, H⟩ := H
                  replace H : (if 1 ≤ (t114.size : Int) then (some (t114.extract 1 t114.size)) else (none)) = some r := H
                  have A18 := Aside0.mk A180
                  clear A180
                  by_cases c19 : 1 ≤ (t114.size : Int)
                  · rw [if_pos c19] at H
                    have c19b0 := eq_true c19
                    have c19b1 : decide (1 ≤ (t114.size : Int)) = true := decide_eq_true c19
                    clear c19
                    obtain rfl := Option.some.inj H
                    go_wp2_with (first | ((with_reducible refine gate_callee (f := 28) rfl ?_); refine goesL_ (some 41) rfl rfl Tryd.func28 (by kernel_rfl) rfl #[.int .i64 a1] rfl (by (try simp only [List.map_toArray, List.map_cons, List.map_nil]); first | done | rfl | (simp only [List.length_drop, List.length_take]; rfl)) ?_; (with_reducible refine (impl_ybytes.calls a1 t101 _ A12.out).mono ?_); rintro e w20 ⟨v102, rfl, ho0, hb⟩; refine ⟨_, rfl, ?_⟩; have n0_ := Aside0.mk (Kd.R_lower ho0 (below_size (by repeat (first | (with_reducible first | exact HB.out | apply below_alloc | apply pw_below_drewN | apply below_drew1) | exact HB.out)))); have n1_ := Aside0.mk (below_step (by repeat (first | (with_reducible first | exact HB.out | apply below_alloc | apply pw_below_drewN | apply below_drew1) | exact HB.out)) hb); clear HB; have HO103 := n0_; have HB := n1_; clear n0_ n1_; (try clear hb); (try clear hb2); (try clear hk); (try clear hi); (try clear ho0)) | ((with_reducible refine gate_callee (f := 28) rfl ?_); refine goesL_ (some 44) rfl rfl Tryd.func28 (by kernel_rfl) rfl #[.int .i64 (a1 / 4294967296)] rfl (by (try simp only [List.map_toArray, List.map_cons, List.map_nil]); first | done | rfl | (simp only [List.length_drop, List.length_take]; rfl)) ?_; (with_reducible refine (impl_ybytes.calls (a1 / 4294967296) t104 _ A13.out).mono ?_); rintro e w21 ⟨v105, rfl, ho0, hb⟩; refine ⟨_, rfl, ?_⟩; have n0_ := Aside0.mk (Kd.R_elder' (by (with_reducible repeat (first | apply Kd.R_alloc | apply Kd.R_drewN | apply Kd.R_drew)); exact HO103.out) (Kd.R_base ho0) hb); have n1_ := Aside0.mk (Kd.R_lower (Kd.R_new' ho0 (Kd.R_lt (by (with_reducible repeat (first | apply Kd.R_alloc | apply Kd.R_drewN | apply Kd.R_drew)); exact HO103.out))) (below_size (by repeat (first | (with_reducible first | exact HB.out | apply below_alloc | apply pw_below_drewN | apply below_drew1) | exact HB.out)))); have n2_ := Aside0.mk (below_step (by repeat (first | (with_reducible first | exact HB.out | apply below_alloc | apply pw_below_drewN | apply below_drew1) | exact HB.out)) hb); clear HO103; clear HB; have HO103 := n0_; have HO106 := n1_; have HB := n2_; clear n0_ n1_ n2_; (try clear hb); (try clear hb2); (try clear hk); (try clear hi); (try clear ho0); obtain ⟨Ao23, co23, eo23⟩ := Kd.R_slice HO106.out; subst eo23) | ((with_reducible refine gate_builtin (b := .append) (xs := #[.tmp 41, .tmp 44]) rfl ?_); (try (refine gate_guard (by rfl) ?_; dsimp only)); at_builtin; refine Kd.R_append_rows (Kd.int .u8) (w0 := w) w.heap.size rfl (.tmp 41) (.tmp 44) 24 5 (.int .u8 0) 1 rfl Tryd.underlying24 info5 rfl (by decide) (by omega) v102 t101 t104 _ _ _ (fun k_ => some k_ ≠ (.slice Ao23 t104.length co23 : Value).ownBlock) (fun _ => False) rfl rfl ?aO ?aR (fun _ _ h => h) (fun _ h => h.elim) ?aF ?aB ?aS ?aL ?_; (case aR => repeat (first | exact (Kd.R_reads' HO106.out).2.2 | (with_reducible refine Kd.C_alloc ?_ _) | (with_reducible refine Kd.C_drewN ?_ _) | (with_reducible refine Kd.C_drew ?_))); (case aB => exact (by repeat (first | (with_reducible first | exact HB.out | apply below_alloc | apply pw_below_drewN | apply below_drew1) | exact HB.out))); (case aF => exact (fun k_ hk => Kd.fresh' (Kd.R_lt (by (with_reducible repeat (first | apply Kd.R_alloc | apply Kd.R_drewN | apply Kd.R_drew)); exact HO106.out)) k_ hk)); (case aO => exact (by (with_reducible repeat (first | apply Kd.R_alloc | apply Kd.R_drewN | apply Kd.R_drew)); exact Kd.R_mono HO103.out (fun _ hk => hk.2))); (case aS => exact (below_size (by repeat (first | (with_reducible first | exact HB.out | apply below_alloc | apply pw_below_drewN | apply below_drew1) | exact HB.out)))); (case aL => have := LMc14.out; omega); intro v108 w22 ho hb hg hat; rw [← Ny107.out] at ho; have n0_ := Aside0.mk (Kd.R_after (ok := (fun _ => True)) (by (with_reducible repeat (first | apply Kd.R_alloc | apply Kd.R_drewN | apply Kd.R_drew)); exact HO106.out) hg hat); have n1_ := Aside0.mk (hb); have n2_ := Aside0.mk (ho); clear HO106; clear HB; clear HO103; have HO106 := n0_; have HB := n1_; have HO109 := n2_; clear n0_ n1_ n2_; clear ho hb hg hat; obtain ⟨Ao24, co24, eo24⟩ := Kd.R_slice HO109.out; subst eo24) | ((with_reducible refine gate_callee (f := 27) rfl ?_); refine goesL_ (some 46) rfl rfl Tryd.func27 (by kernel_rfl) rfl #[.slice A0 l0.length c0, .slice Ao24 y107.length co24] rfl (by (try simp only [List.map_toArray, List.map_cons, List.map_nil]); first | done | rfl | (simp only [List.length_drop, List.length_take]; rfl)) ?_; (with_reducible refine (impl_Mac.calls k2 _ _ l0 _ _ y107 t110 _ ?side1 ?side2 ?side3 ?side4 A15.out).mono ?_); (case side1 => repeat (first | exact (Kd.C_below HR0.out HB.out) | (with_reducible refine Kd.C_alloc ?_ _) | (with_reducible refine Kd.C_drewN ?_ _) | (with_reducible refine Kd.C_drew ?_))); (case side2 => exact HC0.out); (case side3 => repeat (first | exact (Kd.R_reads' HO109.out).2.2 | (with_reducible refine Kd.C_alloc ?_ _) | (with_reducible refine Kd.C_drewN ?_ _) | (with_reducible refine Kd.C_drew ?_))); (case side4 => exact (Kd.R_reads' HO109.out).2.1); rintro e w25 ⟨v111, rfl, ho0, hb⟩; refine ⟨_, rfl, ?_⟩; have n0_ := Aside0.mk (Kd.R_elder' (by (with_reducible repeat (first | apply Kd.R_alloc | apply Kd.R_drewN | apply Kd.R_drew)); exact HO106.out) (Kd.R_base ho0) hb); have n1_ := Aside0.mk (Kd.R_elder' (by (with_reducible repeat (first | apply Kd.R_alloc | apply Kd.R_drewN | apply Kd.R_drew)); exact HO109.out) (Kd.R_base ho0) hb); have n2_ := Aside0.mk (Kd.R_lower (Kd.R_new' (Kd.R_new' ho0 (Kd.R_lt (by (with_reducible repeat (first | apply Kd.R_alloc | apply Kd.R_drewN | apply Kd.R_drew)); exact HO106.out))) (Kd.R_lt (by (with_reducible repeat (first | apply Kd.R_alloc | apply Kd.R_drewN | apply Kd.R_drew)); exact HO109.out))) (below_size (by repeat (first | (with_reducible first | exact HB.out | apply below_alloc | apply pw_below_drewN | apply below_drew1) | exact HB.out)))); have n3_ := Aside0.mk (below_step (by repeat (first | (with_reducible first | exact HB.out | apply below_alloc | apply pw_below_drewN | apply below_drew1) | exact HB.out)) hb); clear HO106; clear HO109; clear HB; have HO106 := n0_; have HO109 := n1_; have HO112 := n2_; have HB := n3_; clear n0_ n1_ n2_ n3_; (try clear hb); (try clear hb2); (try clear hk); (try clear hi); (try clear ho0); obtain ⟨Ao26, co26, eo26⟩ := Kd.R_slice HO112.out; subst eo26) | ((with_reducible refine gate_callee (f := 26) rfl ?_); refine goesL_ (some 47) rfl rfl Tryd.func26 (by kernel_rfl) rfl #[.slice Ao26 t110.length co26] rfl (by (try simp only [List.map_toArray, List.map_cons, List.map_nil]); first | done | rfl | (simp only [List.length_drop, List.length_take]; rfl)) ?_; (with_reducible refine (impl_ynumber.calls _ _ t110 t113 _ ?side1 ?side2 A16.out).mono ?_); (case side1 => repeat (first | exact (Kd.R_reads' HO112.out).2.2 | (with_reducible refine Kd.C_alloc ?_ _) | (with_reducible refine Kd.C_drewN ?_ _) | (with_reducible refine Kd.C_drew ?_))); (case side2 => exact (Kd.R_reads' HO112.out).2.1); rintro e w' ⟨rfl, ⟨nd, rfl⟩⟩; refine ⟨_, rfl, ?_⟩) | ((with_reducible refine gate_callee (f := 23) rfl ?_); refine goesL_ (some 53) rfl rfl Tryd.func23 (by kernel_rfl) rfl #[.int .i64 (wrap64 (x7_2 + (Int.tmod t113 x7_2)))] rfl (by (try simp only [List.map_toArray, List.map_cons, List.map_nil]); first | done | rfl | (simp only [List.length_drop, List.length_take]; rfl)) ?_; (with_reducible refine (strconv_Itoa.calls (wrap64 (x7_2 + (Int.tmod t113 x7_2))) t114 _ ?tabw A18.out).mono ?_); (case tabw => repeat (first | exact HTAB.out | exact TabW_below HTAB.out HB.out | (with_reducible refine TabW_drewN ?_ _) | (with_reducible refine TabW_drew ?_) | (with_reducible refine TabW_alloc ?_ _))); rintro e w27 ⟨rfl, hb⟩; refine ⟨_, rfl, ?_⟩; have n0_ := Aside0.mk (Kd.R_below (by (with_reducible repeat (first | apply Kd.R_alloc | apply Kd.R_drewN | apply Kd.R_drew)); exact HO106.out) hb); have n1_ := Aside0.mk (Kd.R_below (by (with_reducible repeat (first | apply Kd.R_alloc | apply Kd.R_drewN | apply Kd.R_drew)); exact HO109.out) hb); have n2_ := Aside0.mk (Kd.R_below (by (with_reducible repeat (first | apply Kd.R_alloc | apply Kd.R_drewN | apply Kd.R_drew)); exact HO112.out) hb); have n3_ := Aside0.mk (below_step (by repeat (first | (with_reducible first | exact HB.out | apply below_alloc | apply pw_below_drewN | apply below_drew1) | exact HB.out)) hb); clear HO106; clear HO109; clear HO112; clear HB; have HO106 := n0_; have HO109 := n1_; have HO112 := n2_; have HB := n3_; clear n0_ n1_ n2_ n3_; (try clear hb); (try clear hb2); (try clear hk); (try clear hi)))
                    go_ret
                    exact ⟨by first | rfl | (simp [errW_none, errW_some] <;> rfl) | (simp [*, errW_none, errW_some] <;> rfl), by repeat (first | (with_reducible first | exact HB.out | apply below_alloc | apply pw_below_drewN | apply below_drew1) | exact HB.out)⟩
                  · rw [if_neg c19] at H
                    exact absurd H (by simp)
              · rw [if_neg c14] at H
                exact absurd H (by simp)

end Go.Proofs.YtgolcojhnklfdaaDoor.Pr
