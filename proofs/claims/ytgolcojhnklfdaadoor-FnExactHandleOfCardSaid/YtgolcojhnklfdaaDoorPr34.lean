-- Written by mkprint.py (a program of this repo, which drives the print.py of the kit): Lean checks it.
import Derived.Test.YtgolcojhnklfdaaDoorPr0x
import Derived.Test.YtgolcojhnklfdaaDoorHbytes
import Derived.Test.YtgolcojhnklfdaaDoorPr22
import Derived.Test.YtgolcojhnklfdaaDoorPr47
import Derived.Test.YtgolcojhnklfdaaDoorPrgS2
namespace Go.Proofs.YtgolcojhnklfdaaDoor.Pr
open Go.RowKit Go.Proofs.YtgolcojhnklfdaaDoorW.PrintWords Go.Proofs.YtgolcojhnklfdaaDoorW.PrintLast Go.Proofs.YtgolcojhnklfdaaDoorW.PrintMore
attribute [local go_sem] max2_int min2_int max_two min_two max_three min_three max_four min_four   -- for this text's walks alone
set_option linter.unusedVariables false
set_option linter.unusedSimpArgs false

/-! ### spec_l18Handle: function 34 -/
def spec_l18Handle.f (k : Nat) (l0 : List Int) (a1 : ByteArray) (a2 : Int) : Option (ByteArray) := (spec_l1Num.f k a2).bind fun t101 => (if a1.size + t101.size ≤ 9223372036854775807 then (if (a1 ++ t101).size + 1 ≤ 9223372036854775807 then ((bytesOfS.f (a1 ++ t101)).bind fun t102 => ((spec_l2Mac.f k l0 t102).bind fun t105 => (if 10 ≤ (t105.length : Int) then ((spec_l2Armor.f k (t105.take 10)).bind fun t112 => (if ((a1 ++ t101) ++ (⟨#[45]⟩ : ByteArray)).size + t112.size ≤ 9223372036854775807 then (some (((a1 ++ t101) ++ (⟨#[45]⟩ : ByteArray)) ++ t112)) else (none))) else (none)))) else (none)) else (none))
theorem spec_l18Handle.mono : ∀ a0 a1 a2 k, LeO (spec_l18Handle.f k a0 a1 a2) (spec_l18Handle.f (k + 1) a0 a1 a2) := by
  intro a0 a1 a2 k
  unfold spec_l18Handle.f
  repeat' first
      | (with_reducible exact spec_l1Num.mono _ _)
      | (with_reducible exact spec_l2Armor.mono _ _)
      | (with_reducible exact spec_l2Mac.mono _ _ _)
      | (with_reducible exact LeO.refl _)
      | (with_reducible exact LeO.none _)
      | (with_reducible refine LeO.ite ?_ ?_)
      | (with_reducible refine LeO.bind ?_ (fun _ => ?_))
      | exact spec_l1Num.mono _ _
      | exact spec_l2Armor.mono _ _
      | exact spec_l2Mac.mono _ _ _
      | exact LeO.none _
      | refine LeO.ite ?_ ?_
      | refine LeO.bind ?_ (fun _ => ?_)
set_option maxHeartbeats 8000000 in
set_option maxRecDepth 100000 in
theorem spec_l18Handle.calls (k : Nat) (A0 : Option Addr) (c0 : Nat) (l0 : List Int) (a1 : ByteArray) (a2 : Int) (r : ByteArray) (w : World) (hr0 : Kd.C (Kd.int .u8) w A0 l0.length l0) (hc0 : l0.length ≤ c0) (h : spec_l18Handle.f k l0 a1 a2 = some r) :
    Calls Tryd.prog 34 #[.slice A0 l0.length c0, .string a1, .int .i64 a2] w fun e w' => e = .returned (.string r) ∧ Below w.heap.size w w' := by
  have HR0 := Aside0.mk hr0
  have HC0 := Aside0.mk hc0
  clear hr0 hc0
  have HB := Aside0.mk (Below.refl w.heap.size w)
  have H : ((spec_l1Num.f k a2).bind fun t101 => (if a1.size + t101.size ≤ 9223372036854775807 then (if (a1 ++ t101).size + 1 ≤ 9223372036854775807 then ((bytesOfS.f (a1 ++ t101)).bind fun t102 => ((spec_l2Mac.f k l0 t102).bind fun t105 => (if 10 ≤ (t105.length : Int) then ((spec_l2Armor.f k (t105.take 10)).bind fun t112 => (if ((a1 ++ t101) ++ (⟨#[45]⟩ : ByteArray)).size + t112.size ≤ 9223372036854775807 then (some (((a1 ++ t101) ++ (⟨#[45]⟩ : ByteArray)) ++ t112)) else (none))) else (none)))) else (none)) else (none))) = some r := h
  clear h
  replace H := Option.bind_eq_some_iff.mp H
  obtain ⟨t101, A40, H⟩ := H
  replace H : (if a1.size + t101.size ≤ 9223372036854775807 then (if (a1 ++ t101).size + 1 ≤ 9223372036854775807 then ((bytesOfS.f (a1 ++ t101)).bind fun t102 => ((spec_l2Mac.f k l0 t102).bind fun t105 => (if 10 ≤ (t105.length : Int) then ((spec_l2Armor.f k (t105.take 10)).bind fun t112 => (if ((a1 ++ t101) ++ (⟨#[45]⟩ : ByteArray)).size + t112.size ≤ 9223372036854775807 then (some (((a1 ++ t101) ++ (⟨#[45]⟩ : ByteArray)) ++ t112)) else (none))) else (none)))) else (none)) else (none)) = some r := H
  have A4 := Aside0.mk A40
  clear A40
  by_cases c5 : a1.size + t101.size ≤ 9223372036854775807
  · rw [if_pos c5] at H
    have c5b0 := eq_true c5
    have c5b1 : decide (a1.size + t101.size ≤ 9223372036854775807) = true := decide_eq_true c5
    try have c5b2 : (9223372036854775807 < a1.size + t101.size) = False := eq_false (Nat.not_lt.2 c5)
    by_cases c6 : (a1 ++ t101).size + 1 ≤ 9223372036854775807
    · rw [if_pos c6] at H
      have c6b0 := eq_true c6
      have c6b1 : decide ((a1 ++ t101).size + 1 ≤ 9223372036854775807) = true := decide_eq_true c6
      try have c6b2 : (9223372036854775807 < (a1 ++ t101).size + 1) = False := eq_false (Nat.not_lt.2 c6)
      try (have c6b9 := c6b2; simp only [ByteArray.size_append] at c6b9)
      replace H := Option.bind_eq_some_iff.mp H
      obtain ⟨t102, A70, H⟩ := H
      replace H : ((spec_l2Mac.f k l0 t102).bind fun t105 => (if 10 ≤ (t105.length : Int) then ((spec_l2Armor.f k (t105.take 10)).bind fun t112 => (if ((a1 ++ t101) ++ (⟨#[45]⟩ : ByteArray)).size + t112.size ≤ 9223372036854775807 then (some (((a1 ++ t101) ++ (⟨#[45]⟩ : ByteArray)) ++ t112)) else (none))) else (none))) = some r := H
      have A7 := Aside0.mk A70
      clear A70
      replace H := Option.bind_eq_some_iff.mp H
      obtain ⟨t105, A80, H⟩ := H
      replace H : (if 10 ≤ (t105.length : Int) then ((spec_l2Armor.f k (t105.take 10)).bind fun t112 => (if ((a1 ++ t101) ++ (⟨#[45]⟩ : ByteArray)).size + t112.size ≤ 9223372036854775807 then (some (((a1 ++ t101) ++ (⟨#[45]⟩ : ByteArray)) ++ t112)) else (none))) else (none)) = some r := H
      have A8 := Aside0.mk A80
      clear A80
      by_cases c9 : 10 ≤ (t105.length : Int)
      · rw [if_pos c9] at H
        have c9b0 := eq_true c9
        have c9b1 : decide (10 ≤ (t105.length : Int)) = true := decide_eq_true c9
        clear c9
        obtain ⟨y108, hy108⟩ : ∃ y_ : List Int, y_ = (t105.take 10) := ⟨_, rfl⟩
        replace H : ((spec_l2Armor.f k y108).bind fun t112 => (if ((a1 ++ t101) ++ (⟨#[45]⟩ : ByteArray)).size + t112.size ≤ 9223372036854775807 then (some (((a1 ++ t101) ++ (⟨#[45]⟩ : ByteArray)) ++ t112)) else (none))) = some r := by first | (rw [hy108]; with_reducible exact H) | (have H2_ := (Option.bind_some _ _).symm.trans H; rw [hy108]; with_reducible exact H2_) | (have H2_ := (Option.bind_some _ _).symm.trans H; with_reducible exact H2_) | with_reducible exact H | (rw [hy108]; exact H) | exact H
        have Ny108 := Aside0.mk hy108
        clear hy108
        replace H := Option.bind_eq_some_iff.mp H
        obtain ⟨t112, A100, H⟩ := H
        replace H : (if ((a1 ++ t101) ++ (⟨#[45]⟩ : ByteArray)).size + t112.size ≤ 9223372036854775807 then (some (((a1 ++ t101) ++ (⟨#[45]⟩ : ByteArray)) ++ t112)) else (none)) = some r := H
        have A10 := Aside0.mk A100
        clear A100
        by_cases c11 : ((a1 ++ t101) ++ (⟨#[45]⟩ : ByteArray)).size + t112.size ≤ 9223372036854775807
        · rw [if_pos c11] at H
          have c11b0 := eq_true c11
          have c11b1 : decide (((a1 ++ t101) ++ (⟨#[45]⟩ : ByteArray)).size + t112.size ≤ 9223372036854775807) = true := decide_eq_true c11
          try have c11b2 : (9223372036854775807 < ((a1 ++ t101) ++ (⟨#[45]⟩ : ByteArray)).size + t112.size) = False := eq_false (Nat.not_lt.2 c11)
          try (have c11b9 := c11b2; simp only [ByteArray.size_append, show (⟨#[45]⟩ : ByteArray).size = 1 from rfl] at c11b9)
          obtain rfl := Option.some.inj H
          go_enter Tryd.func34, Tryd.ntmps34
          go_wp2_with (first | ((with_reducible refine gate_callee (f := 22) rfl ?_); refine goesL_ (some 10) rfl rfl Tryd.func22 (by kernel_rfl) rfl #[.int .i64 a2] rfl (by (try simp only [List.map_toArray, List.map_cons, List.map_nil]); first | done | rfl | (simp only [List.length_drop, List.length_take]; rfl)) ?_; (with_reducible refine (spec_l1Num.calls k a2 t101 _ A4.out).mono ?_); rintro e w12 ⟨rfl, hb⟩; refine ⟨_, rfl, ?_⟩; have n0_ := Aside0.mk (below_step (by repeat (first | (with_reducible first | exact HB.out | apply below_alloc | apply pw_below_drewN | apply below_drew1) | exact HB.out)) hb); clear HB; have HB := n0_; clear n0_; (try clear hb); (try clear hb2); (try clear hk); (try clear hi)) | ((with_reducible refine gate_convert (src := 9) (dst := 24) rfl ?_); refine bytesGoesL_ (some 16) rfl rfl (s := (a1 ++ t101)) rfl rfl ?_; (with_reducible refine (bytesOfS.calls (a1 ++ t101) t102 _ A7.out).mono ?_); rintro e w13 ⟨v103, rfl, ho0, hb⟩; refine ⟨_, rfl, ?_⟩; have n0_ := Aside0.mk (Kd.V_lower (Kd.V_mono (ok' := fun k_ => True) ho0 (fun k_ hk_ => trivial)) (below_size (by repeat (first | (with_reducible first | exact HB.out | apply below_alloc | apply pw_below_drewN | apply below_drew1) | exact HB.out)))); have n1_ := Aside0.mk (below_step (by repeat (first | (with_reducible first | exact HB.out | apply below_alloc | apply pw_below_drewN | apply below_drew1) | exact HB.out)) hb); clear HB; have HO104 := n0_; have HB := n1_; clear n0_ n1_; (try clear hb); (try clear hb2); (try clear hk); (try clear hi); (try clear ho0); obtain ⟨Ao14, co14, eo14⟩ := Kd.V_slice HO104.out; subst eo14) | ((with_reducible refine gate_callee (f := 40) rfl ?_); refine goesL_ (some 17) rfl rfl Tryd.func40 (by kernel_rfl) rfl #[.slice A0 l0.length c0, .slice Ao14 t102.length co14] rfl (by (try simp only [List.map_toArray, List.map_cons, List.map_nil]); first | done | rfl | (simp only [List.length_drop, List.length_take]; rfl)) ?_; (with_reducible refine (spec_l2Mac.calls k _ _ l0 _ _ t102 t105 _ ?side1 ?side2 ?side3 ?side4 A8.out).mono ?_); (case side1 => repeat (first | exact (Kd.C_below HR0.out HB.out) | (with_reducible refine Kd.C_alloc ?_ _) | (with_reducible refine Kd.C_drewN ?_ _) | (with_reducible refine Kd.C_drew ?_))); (case side2 => exact HC0.out); (case side3 => repeat (first | exact (Kd.V_reads' HO104.out).2.2 | (with_reducible refine Kd.C_alloc ?_ _) | (with_reducible refine Kd.C_drewN ?_ _) | (with_reducible refine Kd.C_drew ?_))); (case side4 => exact (Kd.V_reads' HO104.out).2.1); rintro e w15 ⟨v106, rfl, ho0, hb⟩; refine ⟨_, rfl, ?_⟩; have n0_ := Aside0.mk (Kd.V_elder' (by (with_reducible repeat (first | apply Kd.V_alloc | apply Kd.V_drewN | apply Kd.V_drew)); exact HO104.out) (Kd.R_base ho0) hb); have n1_ := Aside0.mk (Kd.R_lower ho0 (below_size (by repeat (first | (with_reducible first | exact HB.out | apply below_alloc | apply pw_below_drewN | apply below_drew1) | exact HB.out)))); have n2_ := Aside0.mk (below_step (by repeat (first | (with_reducible first | exact HB.out | apply below_alloc | apply pw_below_drewN | apply below_drew1) | exact HB.out)) hb); clear HO104; clear HB; have HO104 := n0_; have HO107 := n1_; have HB := n2_; clear n0_ n1_ n2_; (try clear hb); (try clear hb2); (try clear hk); (try clear hi); (try clear ho0); obtain ⟨Ao17, co17, eo17⟩ := Kd.R_slice HO107.out; subst eo17; have q16 : (10 : Int) ≤ ((t105.length : Int) : Int) := of_decide_eq_true (by first | (with_reducible assumption) | assumption); obtain ⟨i016, hi016, _, hsz16, _⟩ := info_parts info5; have hroom16 : t105.length ≤ co17 := (Kd.R_reads' HO107.out).2.1; have hC16 : Kd.C (Kd.int .u8) _ Ao17 t105.length t105 := (Kd.R_reads' HO107.out).2.2; have hcut16 := cut_to (P := Tryd.prog) 24 5 .i64 Tryd.underlying24 hi016 Ao17 t105.length co17 10 (by omega) q16 hroom16; have hr16 := Kd.C_take (m := 10) hC16 (by omega); have hy16 : y108.length = (10 : Int).toNat := (by rw [Ny108.out, List.length_take]; omega); rw [← Ny108.out] at hr16; rw [← hy16] at hcut16; have HR111 := Aside0.mk hr16; have HC111 := Aside0.mk (show y108.length ≤ co17 from by omega); clear hr16 hC16 hroom16 hi016 hsz16; have KY16 := Aside0.mk hy16; clear hy16; have KL16 := Aside0.mk (show 10 ≤ t105.length from by omega); replace q16 := eq_true q16) | ((with_reducible refine gate_callee (f := 47) rfl ?_); refine goesL_ (some 19) rfl rfl Tryd.func47 (by kernel_rfl) rfl #[.slice Ao17 y108.length co17] rfl (by (try simp only [List.map_toArray, List.map_cons, List.map_nil]); first | done | rfl | (simp only [List.length_drop, List.length_take]; rfl)) ?_; (with_reducible refine (spec_l2Armor.calls k _ _ y108 t112 _ ?side1 ?side2 A10.out).mono ?_); (case side1 => repeat (first | exact (by repeat (first | (with_reducible exact HR111.out) | (with_reducible refine Kd.C_alloc ?_ _) | (with_reducible refine Kd.C_drewN ?_ _) | (with_reducible refine Kd.C_drew ?_) | exact HR111.out)) | (with_reducible refine Kd.C_alloc ?_ _) | (with_reducible refine Kd.C_drewN ?_ _) | (with_reducible refine Kd.C_drew ?_))); (case side2 => exact HC111.out); rintro e w18 ⟨rfl, hb⟩; refine ⟨_, rfl, ?_⟩; have n0_ := Aside0.mk (Kd.V_below (by (with_reducible repeat (first | apply Kd.V_alloc | apply Kd.V_drewN | apply Kd.V_drew)); exact HO104.out) hb); have n1_ := Aside0.mk (Kd.R_below (by (with_reducible repeat (first | apply Kd.R_alloc | apply Kd.R_drewN | apply Kd.R_drew)); exact HO107.out) hb); have n2_ := Aside0.mk (Kd.C_below (by repeat (first | (with_reducible exact HR111.out) | (with_reducible refine Kd.C_alloc ?_ _) | (with_reducible refine Kd.C_drewN ?_ _) | (with_reducible refine Kd.C_drew ?_) | exact HR111.out)) hb); have n3_ := Aside0.mk (below_step (by repeat (first | (with_reducible first | exact HB.out | apply below_alloc | apply pw_below_drewN | apply below_drew1) | exact HB.out)) hb); clear HO104; clear HO107; clear HR111; clear HB; have HO104 := n0_; have HO107 := n1_; have HR111 := n2_; have HB := n3_; clear n0_ n1_ n2_ n3_; (try clear hb); (try clear hb2); (try clear hk); (try clear hi)))
          go_ret
          exact ⟨by first | rfl | (simp [errW_none, errW_some] <;> rfl) | (simp [*, errW_none, errW_some] <;> rfl), by repeat (first | (with_reducible first | exact HB.out | apply below_alloc | apply pw_below_drewN | apply below_drew1) | exact HB.out)⟩
        · rw [if_neg c11] at H
          exact absurd H (by simp)
      · rw [if_neg c9] at H
        exact absurd H (by simp)
    · rw [if_neg c6] at H
      exact absurd H (by simp)
  · rw [if_neg c5] at H
    exact absurd H (by simp)

end Go.Proofs.YtgolcojhnklfdaaDoor.Pr
