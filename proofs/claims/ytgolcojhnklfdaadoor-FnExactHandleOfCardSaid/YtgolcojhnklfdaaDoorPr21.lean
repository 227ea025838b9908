-- Written by mkprint.py (a program of this repo, which drives the print.py of the kit): Lean checks it.
import Derived.Test.YtgolcojhnklfdaaDoorPr0x
import Derived.Test.YtgolcojhnklfdaaDoorHarmor
import Derived.Test.YtgolcojhnklfdaaDoorHbytes
import Derived.Test.YtgolcojhnklfdaaDoorHitoa
import Derived.Test.YtgolcojhnklfdaaDoorPr27
import Derived.Test.YtgolcojhnklfdaaDoorPr35
namespace Go.Proofs.YtgolcojhnklfdaaDoor.Pr
open Go.RowKit Go.Proofs.YtgolcojhnklfdaaDoorW.PrintWords Go.Proofs.YtgolcojhnklfdaaDoorW.PrintLast Go.Proofs.YtgolcojhnklfdaaDoorW.PrintMore
attribute [local go_sem] max2_int min2_int max_two min_two max_three min_three max_four min_four   -- for this text's walks alone
set_option linter.unusedVariables false
set_option linter.unusedSimpArgs false

/-! ### impl_HandleOf: function 21 -/
def impl_HandleOf.j0 : Nat → List Int → ByteArray → Int → Bool → Option (ByteArray)
  | 0, _, _, _, _ => none
  | k + 1, x0, x1, x2, x23 => if x23 = true then (some (⟨#[]⟩ : ByteArray)) else ((strconv_Itoa.f x2).bind fun t102 => (if x1.size + t102.size ≤ 9223372036854775807 then (if (x1 ++ t102).size + 1 ≤ 9223372036854775807 then ((bytesOfS.f (x1 ++ t102)).bind fun t103 => ((impl_Mac.f k x0 t103).bind fun t106 => (if 10 ≤ (t106.length : Int) then ((impl_Armor.f (t106.take 10)).bind fun t113 => (if ((x1 ++ t102) ++ (⟨#[45]⟩ : ByteArray)).size + t113.size ≤ 9223372036854775807 then (some (((x1 ++ t102) ++ (⟨#[45]⟩ : ByteArray)) ++ t113)) else (none))) else (none)))) else (none)) else (none)))
def impl_HandleOf.f (k : Nat) (l0 : List Int) (a1 : ByteArray) (a2 : Int) : Option (ByteArray) := if (l0.length : Int) > 64 then (impl_HandleOf.j0 k l0 a1 a2 true) else ((impl_GoodName.f k a1).bind fun t101 => (if t101 = true then (if a2 < 1 then (impl_HandleOf.j0 k l0 a1 a2 true) else (impl_HandleOf.j0 k l0 a1 a2 (decide (a2 > 1000000)))) else (impl_HandleOf.j0 k l0 a1 a2 true)))
theorem impl_HandleOf.mono_l : ∀ k, (∀ y0 y1 y2 y3, LeO (impl_HandleOf.j0 k y0 y1 y2 y3) (impl_HandleOf.j0 (k + 1) y0 y1 y2 y3))
  | 0 => fun _ _ _ _ r h => by simp [impl_HandleOf.j0] at h
  | k + 1 => by
    have ih0 := impl_HandleOf.mono_l k
    · intro y0 y1 y2 y3
      unfold impl_HandleOf.j0
      repeat' first
      | (with_reducible exact ih0 _ _ _ _)
      | (with_reducible exact impl_GoodName.mono _ _)
      | (with_reducible exact impl_Mac.mono _ _ _)
      | (with_reducible exact LeO.refl _)
      | (with_reducible exact LeO.none _)
      | (with_reducible refine LeO.ite ?_ ?_)
      | (with_reducible refine LeO.bind ?_ (fun _ => ?_))
      | exact ih0 _ _ _ _
      | exact impl_GoodName.mono _ _
      | exact impl_Mac.mono _ _ _
      | exact LeO.none _
      | refine LeO.ite ?_ ?_
      | refine LeO.bind ?_ (fun _ => ?_)
theorem impl_HandleOf.mono : ∀ a0 a1 a2 k, LeO (impl_HandleOf.f k a0 a1 a2) (impl_HandleOf.f (k + 1) a0 a1 a2) := by
  intro a0 a1 a2 k
  have ih0 := impl_HandleOf.mono_l k
  unfold impl_HandleOf.f
  repeat' first
      | (with_reducible exact ih0 _ _ _ _)
      | (with_reducible exact impl_GoodName.mono _ _)
      | (with_reducible exact impl_Mac.mono _ _ _)
      | (with_reducible exact LeO.refl _)
      | (with_reducible exact LeO.none _)
      | (with_reducible refine LeO.ite ?_ ?_)
      | (with_reducible refine LeO.bind ?_ (fun _ => ?_))
      | exact ih0 _ _ _ _
      | exact impl_GoodName.mono _ _
      | exact impl_Mac.mono _ _ _
      | exact LeO.none _
      | refine LeO.ite ?_ ?_
      | refine LeO.bind ?_ (fun _ => ?_)
set_option maxHeartbeats 8000000 in
set_option maxRecDepth 100000 in
theorem impl_HandleOf.calls (k : Nat) (A0 : Option Addr) (c0 : Nat) (l0 : List Int) (a1 : ByteArray) (a2 : Int) (r : ByteArray) (w : World) (htab : TabW w) (hr0 : Kd.C (Kd.int .u8) w A0 l0.length l0) (hc0 : l0.length ≤ c0) (h : impl_HandleOf.f k l0 a1 a2 = some r) :
    Calls Tryd.prog 21 #[.slice A0 l0.length c0, .string a1, .int .i64 a2] w fun e w' => e = .returned (.string r) ∧ Below w.heap.size w w' := by
  have HTAB := Aside0.mk htab
  clear htab
  have HR0 := Aside0.mk hr0
  have HC0 := Aside0.mk hc0
  clear hr0 hc0
  have HB := Aside0.mk (Below.refl w.heap.size w)
  have H : (if (l0.length : Int) > 64 then (impl_HandleOf.j0 k l0 a1 a2 true) else ((impl_GoodName.f k a1).bind fun t101 => (if t101 = true then (if a2 < 1 then (impl_HandleOf.j0 k l0 a1 a2 true) else (impl_HandleOf.j0 k l0 a1 a2 (decide (a2 > 1000000)))) else (impl_HandleOf.j0 k l0 a1 a2 true)))) = some r := h
  clear h
  have HC4 := Aside0.mk H
  clear H
  go_enter Tryd.func21, Tryd.ntmps21
  go_upto_region 1 with (fail)
  go_cut [23] (fun v23 wc => ∃ (kq : Nat) (x23_3 : Bool), v23 = .bool x23_3 ∧ Aside0 (impl_HandleOf.j0 kq l0 a1 a2 x23_3 = some r) ∧ Aside0 (kq ≤ k) ∧ Aside0 (Below w.heap.size w wc))
  case first =>
    have H := HC4.out
    clear HC4
    by_cases c5 : (l0.length : Int) > 64
    · rw [if_pos c5] at H
      have c5b0 : decide (64 < (l0.length : Int)) = true := decide_eq_true c5
      have c5b1 : decide (64 < l0.length) = true := decide_eq_true (by omega)
      clear c5
      (first | rw [c5b0] | (simp only [i64_w, i32_w]; rw [c5b0]) | skip)
      have H' := Aside0.mk H
      clear H
      go_wp2
      go_meet
      case rel => exact ⟨_, (true), (by first | rfl | (simp; done) | (simp [*]; done)), H', ⟨by first | omega | exact Nat.le_refl _⟩, ⟨by repeat (first | (with_reducible first | exact HB.out | apply below_alloc | apply pw_below_drewN | apply below_drew1) | exact HB.out)⟩⟩
    · rw [if_neg c5] at H
      have c5b0 : decide (64 < (l0.length : Int)) = false := decide_eq_false c5
      have c5b1 : decide (64 < l0.length) = false := decide_eq_false (by omega)
      clear c5
      (first | rw [c5b0] | (simp only [i64_w, i32_w]; rw [c5b0]) | skip)
      replace H := Option.bind_eq_some_iff.mp H
      obtain ⟨t101, A60, H⟩ := H
      replace H : (if t101 = true then (if a2 < 1 then (impl_HandleOf.j0 k l0 a1 a2 true) else (impl_HandleOf.j0 k l0 a1 a2 (decide (a2 > 1000000)))) else (impl_HandleOf.j0 k l0 a1 a2 true)) = some r := H
      have A6 := Aside0.mk A60
      clear A60
      by_cases c7 : t101 = true
      · subst c7
        have H1 : (if a2 < 1 then (impl_HandleOf.j0 k l0 a1 a2 true) else (impl_HandleOf.j0 k l0 a1 a2 (decide (a2 > 1000000)))) = some r := by rw [if_pos rfl] at H; exact H
        clear H
        have H := H1
        clear H1
        by_cases c8 : a2 < 1
        · rw [if_pos c8] at H
          have c8b0 : decide (a2 < 1) = true := decide_eq_true c8
          clear c8
          have H' := Aside0.mk H
          clear H
          go_wp2_with (first | (go_at_call 35; (with_reducible refine (impl_GoodName.calls k a1 true _ A6.out).mono ?_); rintro e w' ⟨rfl, ⟨nd, rfl⟩⟩))
          go_meet
          case rel => exact ⟨_, (true), (by first | rfl | (simp; done) | (simp [*]; done)), H', ⟨by first | omega | exact Nat.le_refl _⟩, ⟨by repeat (first | (with_reducible first | exact HB.out | apply below_alloc | apply pw_below_drewN | apply below_drew1) | exact HB.out)⟩⟩
        · rw [if_neg c8] at H
          have c8b0 : decide (a2 < 1) = false := decide_eq_false c8
          clear c8
          have H' := Aside0.mk H
          clear H
          go_wp2_with (first | (go_at_call 35; (with_reducible refine (impl_GoodName.calls k a1 true _ A6.out).mono ?_); rintro e w' ⟨rfl, ⟨nd, rfl⟩⟩))
          go_meet
          case rel => exact ⟨_, (decide (a2 > 1000000)), (by first | rfl | (simp; done) | (simp [*]; done)), H', ⟨by first | omega | exact Nat.le_refl _⟩, ⟨by repeat (first | (with_reducible first | exact HB.out | apply below_alloc | apply pw_below_drewN | apply below_drew1) | exact HB.out)⟩⟩
      · replace c7 := Bool.eq_false_iff.mpr c7
        subst c7
        have H1 : (impl_HandleOf.j0 k l0 a1 a2 true) = some r := by rw [if_neg (show ¬ (false = true) by decide)] at H; exact H
        clear H
        have H := H1
        clear H1
        have H' := Aside0.mk H
        clear H
        go_wp2_with (first | (go_at_call 35; (with_reducible refine (impl_GoodName.calls k a1 false _ A6.out).mono ?_); rintro e w' ⟨rfl, ⟨nd, rfl⟩⟩))
        go_meet
        case rel => exact ⟨_, (true), (by first | rfl | (simp; done) | (simp [*]; done)), H', ⟨by first | omega | exact Nat.le_refl _⟩, ⟨by repeat (first | (with_reducible first | exact HB.out | apply below_alloc | apply pw_below_drewN | apply below_drew1) | exact HB.out)⟩⟩
  case rest =>
    clear HC4
    try clear c2
    try clear p2
    try clear c5
    try clear c5b0
    try clear c5b1
    try clear c7
    try clear c8
    try clear c8b0
    obtain ⟨kq, x23_3, rfl, HA, HJ3, HB⟩ := hcut
    cases kq with
    | zero => exact absurd HA.out (by simp [impl_HandleOf.j0])
    | succ kj3 =>
      have H := HA.out
      clear HA
      simp only [impl_HandleOf.j0] at H
      by_cases c9 : x23_3 = true
      · subst c9
        have H1 : (some (⟨#[]⟩ : ByteArray)) = some r := by rw [if_pos rfl] at H; exact H
        clear H
        have H := H1
        clear H1
        obtain rfl := Option.some.inj H
        go_wp2
        go_ret
        exact ⟨by first | rfl | (simp [errW_none, errW_some] <;> rfl) | (simp [*, errW_none, errW_some] <;> rfl), by repeat (first | (with_reducible first | exact HB.out | apply below_alloc | apply pw_below_drewN | apply below_drew1) | exact HB.out)⟩
      · replace c9 := Bool.eq_false_iff.mpr c9
        subst c9
        have H1 : ((strconv_Itoa.f a2).bind fun t102 => (if a1.size + t102.size ≤ 9223372036854775807 then (if (a1 ++ t102).size + 1 ≤ 9223372036854775807 then ((bytesOfS.f (a1 ++ t102)).bind fun t103 => ((impl_Mac.f kj3 l0 t103).bind fun t106 => (if 10 ≤ (t106.length : Int) then ((impl_Armor.f (t106.take 10)).bind fun t113 => (if ((a1 ++ t102) ++ (⟨#[45]⟩ : ByteArray)).size + t113.size ≤ 9223372036854775807 then (some (((a1 ++ t102) ++ (⟨#[45]⟩ : ByteArray)) ++ t113)) else (none))) else (none)))) else (none)) else (none))) = some r := by rw [if_neg (show ¬ (false = true) by decide)] at H; exact H
        clear H
        have H := H1
        clear H1
        replace H := Option.bind_eq_some_iff.mp H
        obtain ⟨t102, A100, H⟩ := H
        replace H : (if a1.size + t102.size ≤ 9223372036854775807 then (if (a1 ++ t102).size + 1 ≤ 9223372036854775807 then ((bytesOfS.f (a1 ++ t102)).bind fun t103 => ((impl_Mac.f kj3 l0 t103).bind fun t106 => (if 10 ≤ (t106.length : Int) then ((impl_Armor.f (t106.take 10)).bind fun t113 => (if ((a1 ++ t102) ++ (⟨#[45]⟩ : ByteArray)).size + t113.size ≤ 9223372036854775807 then (some (((a1 ++ t102) ++ (⟨#[45]⟩ : ByteArray)) ++ t113)) else (none))) else (none)))) else (none)) else (none)) = some r := H
        have A10 := Aside0.mk A100
        clear A100
        by_cases c11 : a1.size + t102.size ≤ 9223372036854775807
        · rw [if_pos c11] at H
          have c11b0 := eq_true c11
          have c11b1 : decide (a1.size + t102.size ≤ 9223372036854775807) = true := decide_eq_true c11
          try have c11b2 : (9223372036854775807 < a1.size + t102.size) = False := eq_false (Nat.not_lt.2 c11)
          by_cases c12 : (a1 ++ t102).size + 1 ≤ 9223372036854775807
          · rw [if_pos c12] at H
            have c12b0 := eq_true c12
            have c12b1 : decide ((a1 ++ t102).size + 1 ≤ 9223372036854775807) = true := decide_eq_true c12
            try have c12b2 : (9223372036854775807 < (a1 ++ t102).size + 1) = False := eq_false (Nat.not_lt.2 c12)
            try (have c12b9 := c12b2; simp only [ByteArray.size_append] at c12b9)
            replace H := Option.bind_eq_some_iff.mp H
            obtain ⟨t103, A130, H⟩ := H
            replace H : ((impl_Mac.f kj3 l0 t103).bind fun t106 => (if 10 ≤ (t106.length : Int) then ((impl_Armor.f (t106.take 10)).bind fun t113 => (if ((a1 ++ t102) ++ (⟨#[45]⟩ : ByteArray)).size + t113.size ≤ 9223372036854775807 then (some (((a1 ++ t102) ++ (⟨#[45]⟩ : ByteArray)) ++ t113)) else (none))) else (none))) = some r := H
            have A13 := Aside0.mk A130
            clear A130
            replace H := Option.bind_eq_some_iff.mp H
            obtain ⟨t106, A140, H⟩ := H
            replace H : (if 10 ≤ (t106.length : Int) then ((impl_Armor.f (t106.take 10)).bind fun t113 => (if ((a1 ++ t102) ++ (⟨#[45]⟩ : ByteArray)).size + t113.size ≤ 9223372036854775807 then (some (((a1 ++ t102) ++ (⟨#[45]⟩ : ByteArray)) ++ t113)) else (none))) else (none)) = some r := H
            have A14 := Aside0.mk A140
            clear A140
            by_cases c15 : 10 ≤ (t106.length : Int)
            · rw [if_pos c15] at H
              have c15b0 := eq_true c15
              have c15b1 : decide (10 ≤ (t106.length : Int)) = true := decide_eq_true c15
              clear c15
              obtain ⟨y109, hy109⟩ : ∃ y_ : List Int, y_ = (t106.take 10) := ⟨_, rfl⟩
              replace H : ((impl_Armor.f y109).bind fun t113 => (if ((a1 ++ t102) ++ (⟨#[45]⟩ : ByteArray)).size + t113.size ≤ 9223372036854775807 then (some (((a1 ++ t102) ++ (⟨#[45]⟩ : ByteArray)) ++ t113)) else (none))) = some r := by first | (rw [hy109]; with_reducible exact H) | (have H2_ := (Option.bind_some _ _).symm.trans H; rw [hy109]; with_reducible exact H2_) | (have H2_ := (Option.bind_some _ _).symm.trans H; with_reducible exact H2_) | with_reducible exact H | (rw [hy109]; exact H) | exact H
              have Ny109 := Aside0.mk hy109
              clear hy109
              replace H := Option.bind_eq_some_iff.mp H
              obtain ⟨t113, A160, H⟩ := H
              replace H : (if ((a1 ++ t102) ++ (⟨#[45]⟩ : ByteArray)).size + t113.size ≤ 9223372036854775807 then (some (((a1 ++ t102) ++ (⟨#[45]⟩ : ByteArray)) ++ t113)) else (none)) = some r := H
              have A16 := Aside0.mk A160
              clear A160
              by_cases c17 : ((a1 ++ t102) ++ (⟨#[45]⟩ : ByteArray)).size + t113.size ≤ 9223372036854775807
              · rw [if_pos c17] at H
                have c17b0 := eq_true c17
                have c17b1 : decide (((a1 ++ t102) ++ (⟨#[45]⟩ : ByteArray)).size + t113.size ≤ 9223372036854775807) = true := decide_eq_true c17
                try have c17b2 : (9223372036854775807 < ((a1 ++ t102) ++ (⟨#[45]⟩ : ByteArray)).size + t113.size) = False := eq_false (Nat.not_lt.2 c17)
                try (have c17b9 := c17b2; simp only [ByteArray.size_append, show (⟨#[45]⟩ : ByteArray).size = 1 from rfl] at c17b9)
                obtain rfl := Option.some.inj H
                go_wp2_with (first | ((with_reducible refine gate_callee (f := 23) rfl ?_); refine goesL_ (some 26) rfl rfl Tryd.func23 (by kernel_rfl) rfl #[.int .i64 a2] rfl (by (try simp only [List.map_toArray, List.map_cons, List.map_nil]); first | done | rfl | (simp only [List.length_drop, List.length_take]; rfl)) ?_; (with_reducible refine (strconv_Itoa.calls a2 t102 _ ?tabw A10.out).mono ?_); (case tabw => repeat (first | exact HTAB.out | exact TabW_below HTAB.out HB.out | (with_reducible refine TabW_drewN ?_ _) | (with_reducible refine TabW_drew ?_) | (with_reducible refine TabW_alloc ?_ _))); rintro e w18 ⟨rfl, hb⟩; refine ⟨_, rfl, ?_⟩; have n0_ := Aside0.mk (below_step (by repeat (first | (with_reducible first | exact HB.out | apply below_alloc | apply pw_below_drewN | apply below_drew1) | exact HB.out)) hb); clear HB; have HB := n0_; clear n0_; (try clear hb); (try clear hb2); (try clear hk); (try clear hi)) | ((with_reducible refine gate_convert (src := 9) (dst := 24) rfl ?_); refine bytesGoesL_ (some 32) rfl rfl (s := (a1 ++ t102)) rfl rfl ?_; (with_reducible refine (bytesOfS.calls (a1 ++ t102) t103 _ A13.out).mono ?_); rintro e w19 ⟨v104, rfl, ho0, hb⟩; refine ⟨_, rfl, ?_⟩; have n0_ := Aside0.mk (Kd.V_lower (Kd.V_mono (ok' := fun k_ => True) ho0 (fun k_ hk_ => trivial)) (below_size (by repeat (first | (with_reducible first | exact HB.out | apply below_alloc | apply pw_below_drewN | apply below_drew1) | exact HB.out)))); have n1_ := Aside0.mk (below_step (by repeat (first | (with_reducible first | exact HB.out | apply below_alloc | apply pw_below_drewN | apply below_drew1) | exact HB.out)) hb); clear HB; have HO105 := n0_; have HB := n1_; clear n0_ n1_; (try clear hb); (try clear hb2); (try clear hk); (try clear hi); (try clear ho0); obtain ⟨Ao20, co20, eo20⟩ := Kd.V_slice HO105.out; subst eo20) | ((with_reducible refine gate_callee (f := 27) rfl ?_); refine goesL_ (some 33) rfl rfl Tryd.func27 (by kernel_rfl) rfl #[.slice A0 l0.length c0, .slice Ao20 t103.length co20] rfl (by (try simp only [List.map_toArray, List.map_cons, List.map_nil]); first | done | rfl | (simp only [List.length_drop, List.length_take]; rfl)) ?_; (with_reducible refine (impl_Mac.calls kj3 _ _ l0 _ _ t103 t106 _ ?side1 ?side2 ?side3 ?side4 A14.out).mono ?_); (case side1 => repeat (first | exact (Kd.C_below HR0.out HB.out) | (with_reducible refine Kd.C_alloc ?_ _) | (with_reducible refine Kd.C_drewN ?_ _) | (with_reducible refine Kd.C_drew ?_))); (case side2 => exact HC0.out); (case side3 => repeat (first | exact (Kd.V_reads' HO105.out).2.2 | (with_reducible refine Kd.C_alloc ?_ _) | (with_reducible refine Kd.C_drewN ?_ _) | (with_reducible refine Kd.C_drew ?_))); (case side4 => exact (Kd.V_reads' HO105.out).2.1); rintro e w21 ⟨v107, rfl, ho0, hb⟩; refine ⟨_, rfl, ?_⟩; have n0_ := Aside0.mk (Kd.V_elder' (by (with_reducible repeat (first | apply Kd.V_alloc | apply Kd.V_drewN | apply Kd.V_drew)); exact HO105.out) (Kd.R_base ho0) hb); have n1_ := Aside0.mk (Kd.R_lower ho0 (below_size (by repeat (first | (with_reducible first | exact HB.out | apply below_alloc | apply pw_below_drewN | apply below_drew1) | exact HB.out)))); have n2_ := Aside0.mk (below_step (by repeat (first | (with_reducible first | exact HB.out | apply below_alloc | apply pw_below_drewN | apply below_drew1) | exact HB.out)) hb); clear HO105; clear HB; have HO105 := n0_; have HO108 := n1_; have HB := n2_; clear n0_ n1_ n2_; (try clear hb); (try clear hb2); (try clear hk); (try clear hi); (try clear ho0); obtain ⟨Ao23, co23, eo23⟩ := Kd.R_slice HO108.out; subst eo23; have q22 : (10 : Int) ≤ ((t106.length : Int) : Int) := of_decide_eq_true (by first | (with_reducible assumption) | assumption); obtain ⟨i022, hi022, _, hsz22, _⟩ := info_parts info5; have hroom22 : t106.length ≤ co23 := (Kd.R_reads' HO108.out).2.1; have hC22 : Kd.C (Kd.int .u8) _ Ao23 t106.length t106 := (Kd.R_reads' HO108.out).2.2; have hcut22 := cut_to (P := Tryd.prog) 24 5 .i64 Tryd.underlying24 hi022 Ao23 t106.length co23 10 (by omega) q22 hroom22; have hr22 := Kd.C_take (m := 10) hC22 (by omega); have hy22 : y109.length = (10 : Int).toNat := (by rw [Ny109.out, List.length_take]; omega); rw [← Ny109.out] at hr22; rw [← hy22] at hcut22; have HR112 := Aside0.mk hr22; have HC112 := Aside0.mk (show y109.length ≤ co23 from by omega); clear hr22 hC22 hroom22 hi022 hsz22; have KY22 := Aside0.mk hy22; clear hy22; have KL22 := Aside0.mk (show 10 ≤ t106.length from by omega); replace q22 := eq_true q22) | ((with_reducible refine gate_callee (f := 36) rfl ?_); refine goesL_ (some 35) rfl rfl Tryd.func36 (by kernel_rfl) rfl #[.slice Ao23 y109.length co23] rfl (by (try simp only [List.map_toArray, List.map_cons, List.map_nil]); first | done | rfl | (simp only [List.length_drop, List.length_take]; rfl)) ?_; (with_reducible refine (impl_Armor.calls _ _ y109 t113 _ ?side1 ?side2 A16.out).mono ?_); (case side1 => repeat (first | exact (by repeat (first | (with_reducible exact HR112.out) | (with_reducible refine Kd.C_alloc ?_ _) | (with_reducible refine Kd.C_drewN ?_ _) | (with_reducible refine Kd.C_drew ?_) | exact HR112.out)) | (with_reducible refine Kd.C_alloc ?_ _) | (with_reducible refine Kd.C_drewN ?_ _) | (with_reducible refine Kd.C_drew ?_))); (case side2 => exact HC112.out); rintro e w24 ⟨rfl, hb⟩; refine ⟨_, rfl, ?_⟩; have n0_ := Aside0.mk (Kd.V_below (by (with_reducible repeat (first | apply Kd.V_alloc | apply Kd.V_drewN | apply Kd.V_drew)); exact HO105.out) hb); have n1_ := Aside0.mk (Kd.R_below (by (with_reducible repeat (first | apply Kd.R_alloc | apply Kd.R_drewN | apply Kd.R_drew)); exact HO108.out) hb); have n2_ := Aside0.mk (Kd.C_below (by repeat (first | (with_reducible exact HR112.out) | (with_reducible refine Kd.C_alloc ?_ _) | (with_reducible refine Kd.C_drewN ?_ _) | (with_reducible refine Kd.C_drew ?_) | exact HR112.out)) hb); have n3_ := Aside0.mk (below_step (by repeat (first | (with_reducible first | exact HB.out | apply below_alloc | apply pw_below_drewN | apply below_drew1) | exact HB.out)) hb); clear HO105; clear HO108; clear HR112; clear HB; have HO105 := n0_; have HO108 := n1_; have HR112 := n2_; have HB := n3_; clear n0_ n1_ n2_ n3_; (try clear hb); (try clear hb2); (try clear hk); (try clear hi)))
                go_ret
                exact ⟨by first | rfl | (simp [errW_none, errW_some] <;> rfl) | (simp [*, errW_none, errW_some] <;> rfl), by repeat (first | (with_reducible first | exact HB.out | apply below_alloc | apply pw_below_drewN | apply below_drew1) | exact HB.out)⟩
              · rw [if_neg c17] at H
                exact absurd H (by simp)
            · rw [if_neg c15] at H
              exact absurd H (by simp)
          · rw [if_neg c12] at H
            exact absurd H (by simp)
        · rw [if_neg c11] at H
          exact absurd H (by simp)

end Go.Proofs.YtgolcojhnklfdaaDoor.Pr
