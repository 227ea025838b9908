-- Written by mkprint.py (a program of this repo, which drives the print.py of the kit): Lean checks it.
import Derived.Test.YtccbjchlcelkgaaPr0x
import Derived.Test.YtccbjchlcelkgaaPr56
namespace Go.Proofs.Ytccbjchlcelkgaa.Pr
open Go.RowKit Go.Proofs.YtccbjchlcelkgaaW.PrintWords Go.Proofs.YtccbjchlcelkgaaW.PrintLast Go.Proofs.YtccbjchlcelkgaaW.PrintMore
attribute [local go_sem] max2_int min2_int max_two min_two max_three min_three max_four min_four   -- for this text's walks alone
set_option linter.unusedVariables false
set_option linter.unusedSimpArgs false

/-! ### impl_Like: function 12 -/
mutual
def impl_Like.j0 : Nat → ByteArray → List Int → Bool → Option (Bool)
  | 0, _, _, _ => none
  | k + 1, x0, x5, x29 => if x29 = true then (some false) else (if 0 ≤ (wrap64 ((x0.size : Int) + 1)) then (if (wrap64 ((x0.size : Int) + 1) : Int).toNat ≤ 281474976710656 then ((some (List.replicate (wrap64 ((x0.size : Int) + 1) : Int).toNat false : List Bool)).bind fun y105 => (if 0 < (y105.length : Int) then (impl_Like.l0 k x0 (y105.set (0 : Int).toNat true) x5 (x5.length : Int) 0) else (none))) else (none)) else (none))
def impl_Like.l0 : Nat → ByteArray → List Bool → List Int → Int → Int → Option (Bool)
  | 0, _, _, _, _, _ => none
  | k + 1, x0, x7, x36, x37, x38 => if x38 < x37 then (if 0 ≤ x38 then (if x38 < (x36.length : Int) then (if 0 ≤ (wrap64 ((x0.size : Int) + 1)) then (if (wrap64 ((x0.size : Int) + 1) : Int).toNat ≤ 281474976710656 then (impl_Like.l1 k x0 x7 (rd x36 x38) (List.replicate (wrap64 ((x0.size : Int) + 1) : Int).toNat false) x36 x37 x38 (x7.length : Int) 0) else (none)) else (none)) else (none)) else (none)) else (if 0 ≤ (x0.size : Int) then (if (x0.size : Int) < (x7.length : Int) then (some (rdOf false x7 (x0.size : Int))) else (none)) else (none))
def impl_Like.l1 : Nat → ByteArray → List Bool → Int → List Bool → List Int → Int → Int → Int → Int → Option (Bool)
  | 0, _, _, _, _, _, _, _, _, _ => none
  | k + 1, x0, x7, x9, x10, x36, x37, x38, x47, x48 => if x48 < x47 then (if 0 ≤ x48 then (if x48 < (x7.length : Int) then (if rdOf false x7 x48 = true then (if x9 < 0 then (impl_Like.l2 k x0 x10 x48 x36 x37 x38) else (if x48 < (x0.size : Int) then (if (wrap64 (bt x0 x48)) = x9 then (if 0 ≤ (wrap64 (x48 + 1)) then (if (wrap64 (x48 + 1)) < (x10.length : Int) then (impl_Like.l1 k x0 x7 x9 (x10.set ((wrap64 (x48 + 1)) : Int).toNat true) x36 x37 x38 x47 (wrap64 (x48 + 1))) else (none)) else (none)) else (impl_Like.l1 k x0 x7 x9 x10 x36 x37 x38 x47 (wrap64 (x48 + 1)))) else (impl_Like.l1 k x0 x7 x9 x10 x36 x37 x38 x47 (wrap64 (x48 + 1))))) else (impl_Like.l1 k x0 x7 x9 x10 x36 x37 x38 x47 (wrap64 (x48 + 1)))) else (none)) else (none)) else (impl_Like.l0 k x0 x10 x36 x37 (wrap64 (x38 + 1)))
def impl_Like.l2 : Nat → ByteArray → List Bool → Int → List Int → Int → Int → Option (Bool)
  | 0, _, _, _, _, _, _ => none
  | k + 1, x0, x10, x12, x36, x37, x38 => if x12 ≤ (x0.size : Int) then (if 0 ≤ x12 then (if x12 < (x10.length : Int) then (impl_Like.l2 k x0 (x10.set (x12 : Int).toNat true) (wrap64 (x12 + 1)) x36 x37 x38) else (none)) else (none)) else (impl_Like.l0 k x0 x10 x36 x37 (wrap64 (x38 + 1)))
end
def impl_Like.f (k : Nat) (a0 : ByteArray) (a1 : ByteArray) : Option (Bool) := (impl_ypattern.f k a1).bind fun bt101 => (if bt101.2 = true then (if (a0.size : Int) > 200 then (impl_Like.j0 k a0 bt101.1 true) else (impl_Like.j0 k a0 bt101.1 (decide ((a1.size : Int) > 200)))) else (impl_Like.j0 k a0 bt101.1 true))
theorem impl_Like.mono_l : ∀ k, (∀ y0 y1 y2, LeO (impl_Like.j0 k y0 y1 y2) (impl_Like.j0 (k + 1) y0 y1 y2)) ∧ (∀ y0 y1 y2 y3 y4, LeO (impl_Like.l0 k y0 y1 y2 y3 y4) (impl_Like.l0 (k + 1) y0 y1 y2 y3 y4)) ∧ (∀ y0 y1 y2 y3 y4 y5 y6 y7 y8, LeO (impl_Like.l1 k y0 y1 y2 y3 y4 y5 y6 y7 y8) (impl_Like.l1 (k + 1) y0 y1 y2 y3 y4 y5 y6 y7 y8)) ∧ (∀ y0 y1 y2 y3 y4 y5, LeO (impl_Like.l2 k y0 y1 y2 y3 y4 y5) (impl_Like.l2 (k + 1) y0 y1 y2 y3 y4 y5))
  | 0 => ⟨fun _ _ _ r h => by simp [impl_Like.j0] at h, fun _ _ _ _ _ r h => by simp [impl_Like.l0] at h, fun _ _ _ _ _ _ _ _ _ r h => by simp [impl_Like.l1] at h, fun _ _ _ _ _ _ r h => by simp [impl_Like.l2] at h⟩
  | k + 1 => by
    obtain ⟨ih0, ih1, ih2, ih3⟩ := impl_Like.mono_l k
    refine ⟨?_, ?_, ?_, ?_⟩
    · intro y0 y1 y2
      unfold impl_Like.j0
      repeat' first
      | (with_reducible exact ih0 _ _ _)
      | (with_reducible exact ih1 _ _ _ _ _)
      | (with_reducible exact ih2 _ _ _ _ _ _ _ _ _)
      | (with_reducible exact ih3 _ _ _ _ _ _)
      | (with_reducible exact impl_ypattern.mono _ _)
      | (with_reducible exact LeO.refl _)
      | (with_reducible exact LeO.none _)
      | (with_reducible refine LeO.ite ?_ ?_)
      | (with_reducible refine LeO.bind ?_ (fun _ => ?_))
      | exact ih0 _ _ _
      | exact ih1 _ _ _ _ _
      | exact ih2 _ _ _ _ _ _ _ _ _
      | exact ih3 _ _ _ _ _ _
      | exact impl_ypattern.mono _ _
      | exact LeO.none _
      | refine LeO.ite ?_ ?_
      | refine LeO.bind ?_ (fun _ => ?_)
    · intro y0 y1 y2 y3 y4
      unfold impl_Like.l0
      repeat' first
      | (with_reducible exact ih0 _ _ _)
      | (with_reducible exact ih1 _ _ _ _ _)
      | (with_reducible exact ih2 _ _ _ _ _ _ _ _ _)
      | (with_reducible exact ih3 _ _ _ _ _ _)
      | (with_reducible exact impl_ypattern.mono _ _)
      | (with_reducible exact LeO.refl _)
      | (with_reducible exact LeO.none _)
      | (with_reducible refine LeO.ite ?_ ?_)
      | (with_reducible refine LeO.bind ?_ (fun _ => ?_))
      | exact ih0 _ _ _
      | exact ih1 _ _ _ _ _
      | exact ih2 _ _ _ _ _ _ _ _ _
      | exact ih3 _ _ _ _ _ _
      | exact impl_ypattern.mono _ _
      | exact LeO.none _
      | refine LeO.ite ?_ ?_
      | refine LeO.bind ?_ (fun _ => ?_)
    · intro y0 y1 y2 y3 y4 y5 y6 y7 y8
      unfold impl_Like.l1
      repeat' first
      | (with_reducible exact ih0 _ _ _)
      | (with_reducible exact ih1 _ _ _ _ _)
      | (with_reducible exact ih2 _ _ _ _ _ _ _ _ _)
      | (with_reducible exact ih3 _ _ _ _ _ _)
      | (with_reducible exact impl_ypattern.mono _ _)
      | (with_reducible exact LeO.refl _)
      | (with_reducible exact LeO.none _)
      | (with_reducible refine LeO.ite ?_ ?_)
      | (with_reducible refine LeO.bind ?_ (fun _ => ?_))
      | exact ih0 _ _ _
      | exact ih1 _ _ _ _ _
      | exact ih2 _ _ _ _ _ _ _ _ _
      | exact ih3 _ _ _ _ _ _
      | exact impl_ypattern.mono _ _
      | exact LeO.none _
      | refine LeO.ite ?_ ?_
      | refine LeO.bind ?_ (fun _ => ?_)
    · intro y0 y1 y2 y3 y4 y5
      unfold impl_Like.l2
      repeat' first
      | (with_reducible exact ih0 _ _ _)
      | (with_reducible exact ih1 _ _ _ _ _)
      | (with_reducible exact ih2 _ _ _ _ _ _ _ _ _)
      | (with_reducible exact ih3 _ _ _ _ _ _)
      | (with_reducible exact impl_ypattern.mono _ _)
      | (with_reducible exact LeO.refl _)
      | (with_reducible exact LeO.none _)
      | (with_reducible refine LeO.ite ?_ ?_)
      | (with_reducible refine LeO.bind ?_ (fun _ => ?_))
      | exact ih0 _ _ _
      | exact ih1 _ _ _ _ _
      | exact ih2 _ _ _ _ _ _ _ _ _
      | exact ih3 _ _ _ _ _ _
      | exact impl_ypattern.mono _ _
      | exact LeO.none _
      | refine LeO.ite ?_ ?_
      | refine LeO.bind ?_ (fun _ => ?_)
theorem impl_Like.mono : ∀ a0 a1 k, LeO (impl_Like.f k a0 a1) (impl_Like.f (k + 1) a0 a1) := by
  intro a0 a1 k
  obtain ⟨ih0, ih1, ih2, ih3⟩ := impl_Like.mono_l k
  unfold impl_Like.f
  repeat' first
      | (with_reducible exact ih0 _ _ _)
      | (with_reducible exact ih1 _ _ _ _ _)
      | (with_reducible exact ih2 _ _ _ _ _ _ _ _ _)
      | (with_reducible exact ih3 _ _ _ _ _ _)
      | (with_reducible exact impl_ypattern.mono _ _)
      | (with_reducible exact LeO.refl _)
      | (with_reducible exact LeO.none _)
      | (with_reducible refine LeO.ite ?_ ?_)
      | (with_reducible refine LeO.bind ?_ (fun _ => ?_))
      | exact ih0 _ _ _
      | exact ih1 _ _ _ _ _
      | exact ih2 _ _ _ _ _ _ _ _ _
      | exact ih3 _ _ _ _ _ _
      | exact impl_ypattern.mono _ _
      | exact LeO.none _
      | refine LeO.ite ?_ ?_
      | refine LeO.bind ?_ (fun _ => ?_)
set_option maxHeartbeats 8000000 in
set_option maxRecDepth 100000 in
theorem impl_Like.calls (k : Nat) (a0 : ByteArray) (a1 : ByteArray) (r : Bool) (w : World) (h : impl_Like.f k a0 a1 = some r) :
    Calls Try.prog 12 #[.string a0, .string a1] w fun e w' => e = .returned (.bool r) ∧ Below w.heap.size w w' := by
  have HB := Aside0.mk (Below.refl w.heap.size w)
  have H : ((impl_ypattern.f k a1).bind fun bt101 => (if bt101.2 = true then (if (a0.size : Int) > 200 then (impl_Like.j0 k a0 bt101.1 true) else (impl_Like.j0 k a0 bt101.1 (decide ((a1.size : Int) > 200)))) else (impl_Like.j0 k a0 bt101.1 true))) = some r := h
  clear h
  replace H := Option.bind_eq_some_iff.mp H
  obtain ⟨⟨t101, t102⟩, A30, H⟩ := H
  replace H : (if t102 = true then (if (a0.size : Int) > 200 then (impl_Like.j0 k a0 t101 true) else (impl_Like.j0 k a0 t101 (decide ((a1.size : Int) > 200)))) else (impl_Like.j0 k a0 t101 true)) = some r := H
  have A3 := Aside0.mk A30
  clear A30
  have HC4 := Aside0.mk H
  clear H
  go_enter Try.func12, Try.ntmps12
  go_upto_region 2 with (first | ((with_reducible refine gate_callee (f := 56) rfl ?_); refine goesL_ (some 15) rfl rfl Try.func56 (by kernel_rfl) rfl #[.string a1] rfl (by (try simp only [List.map_toArray, List.map_cons, List.map_nil]); first | done | rfl | (simp only [List.length_drop, List.length_take]; rfl)) ?_; (with_reducible refine (impl_ypattern.calls k a1 t101 t102 _ A3.out).mono ?_); rintro e w5 ⟨v103, rfl, ho0, hb⟩; refine ⟨_, rfl, ?_⟩; have n0_ := Aside0.mk (Kd.R_lower ho0 (below_size (by repeat (first | (with_reducible first | exact HB.out | apply below_alloc | apply pw_below_drewN | apply below_drew1) | exact HB.out)))); have n1_ := Aside0.mk (below_step (by repeat (first | (with_reducible first | exact HB.out | apply below_alloc | apply pw_below_drewN | apply below_drew1) | exact HB.out)) hb); clear HB; have HO104 := n0_; have HB := n1_; clear n0_ n1_; (try clear hb); (try clear hb2); (try clear hk); (try clear hi); (try clear ho0)))
  (try simp only [Act.put, List.setIfInBounds_toArray, List.set_cons_zero, List.set_cons_succ])
  go_cut [29] (fun v29 wc => ∃ (kq : Nat) (x29_3 : Bool), v29 = .bool x29_3 ∧ Aside0 (impl_Like.j0 kq a0 t101 x29_3 = some r) ∧ Aside0 (kq ≤ k) ∧ Aside0 (Kd.R (Kd.int .i64) 3 wc w.heap.size (fun _ => True) v103 t101) ∧ Aside0 (Below w.heap.size w wc))
  case first =>
    have H := HC4.out
    clear HC4
    by_cases c6 : t102 = true
    · subst c6
      have H1 : (if (a0.size : Int) > 200 then (impl_Like.j0 k a0 t101 true) else (impl_Like.j0 k a0 t101 (decide ((a1.size : Int) > 200)))) = some r := by rw [if_pos rfl] at H; exact H
      clear H
      have H := H1
      clear H1
      by_cases c7 : (a0.size : Int) > 200
      · rw [if_pos c7] at H
        have c7b0 : decide (200 < (a0.size : Int)) = true := decide_eq_true c7
        have c7b1 : decide (200 < a0.size) = true := decide_eq_true (by omega)
        clear c7
        (first | rw [c7b0] | (simp only [i64_w, i32_w]; rw [c7b0]) | skip)
        have H' := Aside0.mk H
        clear H
        go_wp2
        go_meet
        case rel => exact ⟨_, (true), (by first | rfl | (simp; done) | (simp [*]; done)), H', ⟨by first | omega | exact Nat.le_refl _⟩, ⟨by (with_reducible repeat (first | apply Kd.R_alloc | apply Kd.R_drewN | apply Kd.R_drew)); exact HO104.out⟩, ⟨by repeat (first | (with_reducible first | exact HB.out | apply below_alloc | apply pw_below_drewN | apply below_drew1) | exact HB.out)⟩⟩
      · rw [if_neg c7] at H
        have c7b0 : decide (200 < (a0.size : Int)) = false := decide_eq_false c7
        have c7b1 : decide (200 < a0.size) = false := decide_eq_false (by omega)
        clear c7
        (first | rw [c7b0] | (simp only [i64_w, i32_w]; rw [c7b0]) | skip)
        have H' := Aside0.mk H
        clear H
        go_wp2
        go_meet
        case rel => exact ⟨_, (decide ((a1.size : Int) > 200)), (by first | rfl | (simp; done) | (simp [*]; done)), H', ⟨by first | omega | exact Nat.le_refl _⟩, ⟨by (with_reducible repeat (first | apply Kd.R_alloc | apply Kd.R_drewN | apply Kd.R_drew)); exact HO104.out⟩, ⟨by repeat (first | (with_reducible first | exact HB.out | apply below_alloc | apply pw_below_drewN | apply below_drew1) | exact HB.out)⟩⟩
    · replace c6 := Bool.eq_false_iff.mpr c6
      subst c6
      have H1 : (impl_Like.j0 k a0 t101 true) = some r := by rw [if_neg (show ¬ (false = true) by decide)] at H; exact H
      clear H
      have H := H1
      clear H1
      have H' := Aside0.mk H
      clear H
      go_wp2
      go_meet
      case rel => exact ⟨_, (true), (by first | rfl | (simp; done) | (simp [*]; done)), H', ⟨by first | omega | exact Nat.le_refl _⟩, ⟨by (with_reducible repeat (first | apply Kd.R_alloc | apply Kd.R_drewN | apply Kd.R_drew)); exact HO104.out⟩, ⟨by repeat (first | (with_reducible first | exact HB.out | apply below_alloc | apply pw_below_drewN | apply below_drew1) | exact HB.out)⟩⟩
  case rest =>
    clear HC4
    try clear c1
    try clear p2
    try clear c5
    try clear c6
    try clear c7
    try clear c7b0
    try clear c7b1
    obtain ⟨kq, x29_3, rfl, HA, HJ3, HO_5, HB⟩ := hcut
    cases kq with
    | zero => exact absurd HA.out (by simp [impl_Like.j0])
    | succ kj3 =>
      have H := HA.out
      clear HA
      simp only [impl_Like.j0] at H
      by_cases c8 : x29_3 = true
      · subst c8
        have H1 : (some false) = some r := by rw [if_pos rfl] at H; exact H
        clear H
        have H := H1
        clear H1
        obtain rfl := Option.some.inj H
        go_wp2
        go_ret
        exact ⟨by first | rfl | (simp [errW_none, errW_some] <;> rfl) | (simp [*, errW_none, errW_some] <;> rfl), by repeat (first | (with_reducible first | exact HB.out | apply below_alloc | apply pw_below_drewN | apply below_drew1) | exact HB.out)⟩
      · replace c8 := Bool.eq_false_iff.mpr c8
        subst c8
        have H1 : (if 0 ≤ (wrap64 ((a0.size : Int) + 1)) then (if (wrap64 ((a0.size : Int) + 1) : Int).toNat ≤ 281474976710656 then ((some (List.replicate (wrap64 ((a0.size : Int) + 1) : Int).toNat false : List Bool)).bind fun y105 => (if 0 < (y105.length : Int) then (impl_Like.l0 kj3 a0 (y105.set (0 : Int).toNat true) t101 (t101.length : Int) 0) else (none))) else (none)) else (none)) = some r := by rw [if_neg (show ¬ (false = true) by decide)] at H; exact H
        clear H
        have H := H1
        clear H1
        obtain ⟨ji9, hji9⟩ : ∃ j_ : Int, (wrap64 ((a0.size : Int) + 1)) = j_ := ⟨_, rfl⟩
        replace H : (if 0 ≤ (ji9) then (if (ji9 : Int).toNat ≤ 281474976710656 then ((some (List.replicate (ji9 : Int).toNat false : List Bool)).bind fun y105 => (if 0 < (y105.length : Int) then (impl_Like.l0 kj3 a0 (y105.set (0 : Int).toNat true) t101 (t101.length : Int) 0) else (none))) else (none)) else (none)) = some r := by first | (rw [hji9] at H; exact H) | (simp only [hji9] at H ⊢; exact H)
        have hji9w : (IntKind.i64.wrap ((a0.size : Int) + 1)) = ji9 := (i64_w _).trans hji9
        by_cases c10 : 0 ≤ (ji9)
        · rw [if_pos c10] at H
          have c10b0 := eq_true c10
          have c10b1 : decide (0 ≤ (ji9)) = true := decide_eq_true c10
          clear c10
          by_cases c11 : (ji9 : Int).toNat ≤ 281474976710656
          · rw [if_pos c11] at H
            have c11b0 := eq_true c11
            have c11b1 : decide ((ji9 : Int).toNat ≤ 281474976710656) = true := decide_eq_true c11
            clear c11
            obtain ⟨y105, hy105⟩ : ∃ y_ : List Bool, y_ = (List.replicate (ji9 : Int).toNat false) := ⟨_, rfl⟩
            replace H : (if 0 < (y105.length : Int) then (impl_Like.l0 kj3 a0 (y105.set (0 : Int).toNat true) t101 (t101.length : Int) 0) else (none)) = some r := by first | (rw [hy105]; with_reducible exact H) | (have H2_ := (Option.bind_some _ _).symm.trans H; rw [hy105]; with_reducible exact H2_) | (have H2_ := (Option.bind_some _ _).symm.trans H; with_reducible exact H2_) | with_reducible exact H | (rw [hy105]; exact H) | exact H
            have Ny105 := Aside0.mk hy105
            clear hy105
            by_cases c12 : 0 < (y105.length : Int)
            · rw [if_pos c12] at H
              have c12b0 : decide (0 < (y105.length : Int)) = true := decide_eq_true c12
              have c12b1 : decide (0 < y105.length) = true := decide_eq_true (by omega)
              clear c12
              obtain ⟨y108, hy108⟩ : ∃ y_ : List Bool, y_ = (y105.set (0 : Int).toNat true) := ⟨_, rfl⟩
              replace H : (impl_Like.l0 kj3 a0 y108 t101 (t101.length : Int) 0) = some r := by first | (rw [hy108]; with_reducible exact H) | (have H2_ := (Option.bind_some _ _).symm.trans H; rw [hy108]; with_reducible exact H2_) | (have H2_ := (Option.bind_some _ _).symm.trans H; with_reducible exact H2_) | with_reducible exact H | (rw [hy108]; exact H) | exact H
              have Ny108 := Aside0.mk hy108
              clear hy108
              have H' := Aside0.mk H
              clear H
              go_wp2_with (first | ((with_reducible refine gate_dst (N := 33) rfl ?_); (try (refine gate_guard (by rfl) ?_; dsimp only)); refine Kd.R_make Kd.bool _ 4 rfl (N := 33) rfl 87 _ _ rfl ji9 rfl rfl Try.underlying87 (.bool false) 1 info4 rfl (by decide) (by omega) false (ok := fun _ => True) (okp := fun _ => True) rfl (fun _ hk => hk) trivial (of_decide_eq_true (by first | (with_reducible assumption) | assumption)) (Nat.le_trans (Nat.mul_le_mul_right _ (of_decide_eq_true (by first | (with_reducible assumption) | assumption) : ji9.toNat ≤ 281474976710656)) (by omega)) (Below.refl _ _) (Nat.le_refl _) ?_; intro v106 w14 ho15 hb hg_ hnew_; clear hg_ hnew_; (first | rw [← Ny105.out] at ho15 | (simp only [Int.reduceToNat] at ho15; rw [← Ny105.out] at ho15)); have n0_ := Aside0.mk (Kd.R_below (by (with_reducible repeat (first | apply Kd.R_alloc | apply Kd.R_drewN | apply Kd.R_drew)); exact HO_5.out) hb); have n1_ := Aside0.mk (Kd.R_lower ho15 (below_size (by repeat (first | (with_reducible first | exact HB.out | apply below_alloc | apply pw_below_drewN | apply below_drew1) | exact HB.out)))); have n2_ := Aside0.mk (below_step (by repeat (first | (with_reducible first | exact HB.out | apply below_alloc | apply pw_below_drewN | apply below_drew1) | exact HB.out)) hb); clear HO_5; clear HB; have HO_5 := n0_; have HO107 := n1_; have HB := n2_; clear n0_ n1_ n2_; clear hb ho15; have p13 : 0 ≤ (0 : Int) := (by omega); have q13 : (0 : Int) < ((y105.length : Int) : Int) := of_decide_eq_true (by first | (with_reducible assumption) | assumption); have qi13 : (0 < y105.length) = True := eq_true (by omega); obtain ⟨go13, co13, eo13, gb13, gl13, cl13, HG13⟩ := Kd.R_form HO107.out (by omega); (first | cases eo13 | (injection eo13 with ea_ en_ ec_; (first | subst ea_ | (injection ea_ with ea_; subst ea_)); subst ec_; clear en_)); have GB13 := Aside0.mk gb13; have GG13 := Aside0.mk HG13; clear gb13 gl13 HG13; obtain ⟨hx13_0, hf13_0⟩ := Kd.R_celln false HO107.out (0 : Int) p13 q13; (try rw [show ((0 : Int)).toNat = 0 from rfl] at hx13_0); (try simp only [Nat.reduceMul, Nat.zero_mul, Nat.zero_add, Nat.reduceAdd] at hx13_0); (try rw [show ((0 : Int)).toNat = 0 from rfl] at hf13_0); (try simp only [Nat.reduceMul, Nat.zero_mul, Nat.zero_add, Nat.reduceAdd] at hf13_0); replace p13 := eq_true p13; replace q13 := eq_true q13; obtain ⟨hy16_, hz16_⟩ := Kd.R_celln false HO107.out (0 : Int) (by omega) (of_decide_eq_true (by first | (with_reducible assumption) | assumption)); (try simp only [Int.reduceToNat, Int.toNat_zero, Int.toNat_ofNat, Nat.reduceMul, Nat.zero_mul, Nat.zero_add] at hy16_ hz16_); (try rw [show ((0 : Int)).toNat = 0 from rfl] at hy16_); (try rw [show ((0 : Int)).toNat = 0 from rfl] at hz16_); have HP16 := Kd.R_putg HO107.out (0 : Int) true) | ((with_reducible refine gate_store (t := 4) (p := 35) rfl ?_); refine store_event (t := 4) (p := 35) (v := ?vo_w17) (w1 := (w14.setCell ⟨go13, (0 : Int).toNat, none⟩ (.bool true))) ?hg ?ho ?hn ?hr ?_; (case ho => rfl); (case hg => rfl); (case hn => rfl); (case hr => first | (go_simp; done) | (go_simp; rfl)); intro w17 hw; have hg : w14.grownBy w17 (some go13) := (by rw [hw]; exact HP16.2); have hp_ : Kd.R Kd.bool 4 w17 w.heap.size (fun _ => True) (.slice (some ⟨go13, 0, none⟩) y105.length co13) y108 := (by rw [hw, Ny108.out]; exact HP16.1); clear HP16; have n0_ := Aside0.mk (Kd.R_over' (v := (.slice (some ⟨go13, 0, none⟩) y105.length co13)) (by (with_reducible repeat (first | apply Kd.R_alloc | apply Kd.R_drewN | apply Kd.R_drew)); exact HO_5.out) (Kd.R_typed HO107.out) (by decide) hg); have n1_ := Aside0.mk (hp_); have n2_ := Aside0.mk ((by rw [hw]; exact below_set (HB.out) GB13.out : Below w.heap.size w w17)); clear HO_5; clear HO107; clear HB; have HO_5 := n0_; have HO107 := n1_; have HB := n2_; clear n0_ n1_ n2_; clear hg hw hp_; obtain ⟨Ao18, co18, eo18⟩ := Kd.R_slice HO_5.out; subst eo18))
              go_loopg [7, 38] kj3 (fun kq v7 v38 w' => ∃ (x7_2 : List Bool) (x38_2 : Int), v38 = .int .i64 x38_2 ∧ Aside0 (impl_Like.l0 kq a0 x7_2 t101 (t101.length : Int) x38_2 = some r) ∧ Aside0 (kq ≤ kj3) ∧ Aside0 (Kd.R Kd.bool 4 w' w.heap.size (fun _ => True) v7 x7_2) ∧ Aside0 (Kd.R (Kd.int .i64) 3 w' w.heap.size (fun _ => True) (.slice Ao18 t101.length co18) t101) ∧ Aside0 (Below w.heap.size w w'))
              case atStart => exact ⟨(y108), (0), (by first | rfl | (simp; done) | (simp [*]; done)), H', ⟨Nat.le_refl _⟩, ⟨by (with_reducible repeat (first | apply Kd.R_alloc | apply Kd.R_drewN | apply Kd.R_drew)); exact HO107.out⟩, ⟨by (with_reducible repeat (first | apply Kd.R_alloc | apply Kd.R_drewN | apply Kd.R_drew)); exact HO_5.out⟩, ⟨by repeat (first | (with_reducible first | exact HB.out | apply below_alloc | apply pw_below_drewN | apply below_drew1) | exact HB.out)⟩⟩
              case round =>
                clear H'
                try clear c1
                try clear p1
                try clear q1
                try clear hx1
                try clear qi1
                try clear p2
                try clear c5
                try clear c6
                try clear p6
                try clear c7
                try clear c7b0
                try clear c7b1
                try clear c8
                try clear c10
                try clear c10b0
                try clear c10b1
                try clear c11
                try clear c11b0
                try clear c11b1
                try clear c12
                try clear c12b0
                try clear c12b1
                try clear p13
                try clear q13
                try clear hx13
                try clear qi13
                try clear hf13
                try clear hx13_0
                try clear p13
                try clear p2
                try clear q13
                obtain ⟨x7_2, x38_2, rfl, HA, HK2, HO_7, HO_36, HB⟩ := hrel
                cases gk with
                | zero => exact absurd HA.out (by simp [impl_Like.l0])
                | succ k2 =>
                  have H := HA.out
                  clear HA
                  simp only [impl_Like.l0] at H
                  by_cases c19 : x38_2 < (t101.length : Int)
                  · rw [if_pos c19] at H
                    have c19b0 : decide (x38_2 < (t101.length : Int)) = true := decide_eq_true c19
                    clear c19
                    by_cases c20 : 0 ≤ x38_2
                    · rw [if_pos c20] at H
                      have c20b0 : decide (0 ≤ x38_2) = true := decide_eq_true c20
                      clear c20
                      by_cases c21 : x38_2 < (t101.length : Int)
                      · rw [if_pos c21] at H
                        have c21b0 : decide (x38_2 < (t101.length : Int)) = true := decide_eq_true c21
                        clear c21
                        replace H : (if 0 ≤ (ji9) then (if (ji9 : Int).toNat ≤ 281474976710656 then (impl_Like.l1 k2 a0 x7_2 (rd t101 x38_2) (List.replicate (ji9 : Int).toNat false) t101 (t101.length : Int) x38_2 (x7_2.length : Int) 0) else (none)) else (none)) = some r := by first | (rw [hji9] at H; exact H) | (simp only [hji9] at H ⊢; exact H)
                        by_cases c23 : 0 ≤ (ji9)
                        · rw [if_pos c23] at H
                          have c23b0 := eq_true c23
                          have c23b1 : decide (0 ≤ (ji9)) = true := decide_eq_true c23
                          clear c23
                          by_cases c24 : (ji9 : Int).toNat ≤ 281474976710656
                          · rw [if_pos c24] at H
                            have c24b0 := eq_true c24
                            have c24b1 : decide ((ji9 : Int).toNat ≤ 281474976710656) = true := decide_eq_true c24
                            clear c24
                            obtain ⟨y111, hy111⟩ : ∃ y_ : List Bool, y_ = (List.replicate (ji9 : Int).toNat false) := ⟨_, rfl⟩
                            replace H : (impl_Like.l1 k2 a0 x7_2 (rd t101 x38_2) y111 t101 (t101.length : Int) x38_2 (x7_2.length : Int) 0) = some r := by first | (rw [hy111]; with_reducible exact H) | (have H2_ := (Option.bind_some _ _).symm.trans H; rw [hy111]; with_reducible exact H2_) | (have H2_ := (Option.bind_some _ _).symm.trans H; with_reducible exact H2_) | with_reducible exact H | (rw [hy111]; exact H) | exact H
                            have Ny111 := Aside0.mk hy111
                            clear hy111
                            have H' := Aside0.mk H
                            clear H
                            have p110 : 0 ≤ (x38_2 : Int) := of_decide_eq_true (by first | (with_reducible assumption) | assumption)
                            have q110 : x38_2 < (t101.length : Int) := of_decide_eq_true (by first | (with_reducible assumption) | assumption)
                            obtain ⟨ad110, e110, hx110_0⟩ := Kd.at_int (Kd.R_reads' HO_36.out).2.2 x38_2 p110 q110
                            cases e110
                            replace p110 := eq_true p110
                            replace q110 := eq_true q110
                            go_wp2_with (first | ((with_reducible refine gate_dst (N := 45) rfl ?_); (try (refine gate_guard (by rfl) ?_; dsimp only)); refine Kd.R_make Kd.bool _ 4 rfl (N := 45) rfl 87 _ _ rfl ji9 rfl rfl Try.underlying87 (.bool false) 1 info4 rfl (by decide) (by omega) false (ok := fun _ => True) (okp := fun _ => True) rfl (fun _ hk => hk) trivial (of_decide_eq_true (by first | (with_reducible assumption) | assumption)) (Nat.le_trans (Nat.mul_le_mul_right _ (of_decide_eq_true (by first | (with_reducible assumption) | assumption) : ji9.toNat ≤ 281474976710656)) (by omega)) (Below.refl _ _) (Nat.le_refl _) ?_; intro v112 w25 ho26 hb hg_ hnew_; clear hg_ hnew_; (first | rw [← Ny111.out] at ho26 | (simp only [Int.reduceToNat] at ho26; rw [← Ny111.out] at ho26)); have n0_ := Aside0.mk (Kd.R_elder' (by (with_reducible repeat (first | apply Kd.R_alloc | apply Kd.R_drewN | apply Kd.R_drew)); exact HO_7.out) (Kd.R_base ho26) hb); have n1_ := Aside0.mk (Kd.R_below (by (with_reducible repeat (first | apply Kd.R_alloc | apply Kd.R_drewN | apply Kd.R_drew)); exact HO_36.out) hb); have n2_ := Aside0.mk (Kd.R_lower (Kd.R_new' ho26 (Kd.R_lt (by (with_reducible repeat (first | apply Kd.R_alloc | apply Kd.R_drewN | apply Kd.R_drew)); exact HO_7.out))) (below_size (by repeat (first | (with_reducible first | exact HB.out | apply below_alloc | apply pw_below_drewN | apply below_drew1) | exact HB.out)))); have n3_ := Aside0.mk (below_step (by repeat (first | (with_reducible first | exact HB.out | apply below_alloc | apply pw_below_drewN | apply below_drew1) | exact HB.out)) hb); clear HO_7; clear HO_36; clear HB; have HO_7 := n0_; have HO_36 := n1_; have HO113 := n2_; have HB := n3_; clear n0_ n1_ n2_ n3_; clear hb ho26; obtain ⟨Ao27, co27, eo27⟩ := Kd.R_slice HO_7.out; subst eo27))
                            go_loopg [48] k2 (fun kq v48 w' => ∃ (x10_3 : List Bool) (x48_3 : Int), v48 = .int .i64 x48_3 ∧ Aside0 (impl_Like.l1 kq a0 x7_2 (rd t101 x38_2) x10_3 t101 (t101.length : Int) x38_2 (x7_2.length : Int) x48_3 = some r) ∧ Aside0 (kq ≤ k2) ∧ Aside0 (Kd.R Kd.bool 4 w' w.heap.size (fun k_ => some k_ ≠ (v112 : Value).ownBlock) (.slice Ao27 x7_2.length co27) x7_2) ∧ Aside0 (Kd.R Kd.bool 4 w' w.heap.size (fun k_ => some k_ ≠ ((.slice Ao27 x7_2.length co27) : Value).ownBlock) v112 x10_3) ∧ Aside0 (Kd.R (Kd.int .i64) 3 w' w.heap.size (fun _ => True) (.slice (some ad110) t101.length co18) t101) ∧ Aside0 (Below w.heap.size w w'))
                            case atStart => exact ⟨(y111), (0), (by first | rfl | (simp; done) | (simp [*]; done)), H', ⟨Nat.le_refl _⟩, ⟨by (with_reducible repeat (first | apply Kd.R_alloc | apply Kd.R_drewN | apply Kd.R_drew)); exact Kd.R_mono HO_7.out (fun _ hk => hk.2)⟩, ⟨by (with_reducible repeat (first | apply Kd.R_alloc | apply Kd.R_drewN | apply Kd.R_drew)); exact Kd.R_mono HO113.out (fun _ hk => hk.2)⟩, ⟨by (with_reducible repeat (first | apply Kd.R_alloc | apply Kd.R_drewN | apply Kd.R_drew)); exact HO_36.out⟩, ⟨by repeat (first | (with_reducible first | exact HB.out | apply below_alloc | apply pw_below_drewN | apply below_drew1) | exact HB.out)⟩⟩
                            case round =>
                              clear H'
                              try clear c1
                              try clear p1
                              try clear q1
                              try clear hx1
                              try clear qi1
                              try clear c2
                              try clear p2
                              try clear c5
                              try clear c6
                              try clear p6
                              try clear c7
                              try clear c7b0
                              try clear c7b1
                              try clear c8
                              try clear c10
                              try clear c10b0
                              try clear c10b1
                              try clear c11
                              try clear c11b0
                              try clear c11b1
                              try clear p11
                              try clear q11
                              try clear hx11
                              try clear c12
                              try clear c12b0
                              try clear c12b1
                              try clear p13
                              try clear q13
                              try clear hx13
                              try clear qi13
                              try clear hf13
                              try clear c19
                              try clear c19b0
                              try clear c20
                              try clear c20b0
                              try clear c21
                              try clear c21b0
                              try clear c23
                              try clear c23b0
                              try clear c23b1
                              try clear c24
                              try clear c24b0
                              try clear c24b1
                              try clear hx110_0
                              try clear hx13_0
                              try clear p1
                              try clear p110
                              try clear p13
                              try clear p2
                              try clear p6
                              try clear q1
                              try clear q110
                              try clear q13
                              obtain ⟨x10_3, x48_3, rfl, HA, HK3, HO_7, HO_10, HO_36, HB⟩ := hrel
                              cases gk with
                              | zero => exact absurd HA.out (by simp [impl_Like.l1])
                              | succ k3 =>
                                have H := HA.out
                                clear HA
                                simp only [impl_Like.l1] at H
                                by_cases c28 : x48_3 < (x7_2.length : Int)
                                · rw [if_pos c28] at H
                                  have c28b0 : decide (x48_3 < (x7_2.length : Int)) = true := decide_eq_true c28
                                  clear c28
                                  by_cases c29 : 0 ≤ x48_3
                                  · rw [if_pos c29] at H
                                    have c29b0 : decide (0 ≤ x48_3) = true := decide_eq_true c29
                                    clear c29
                                    by_cases c30 : x48_3 < (x7_2.length : Int)
                                    · rw [if_pos c30] at H
                                      have c30b0 : decide (x48_3 < (x7_2.length : Int)) = true := decide_eq_true c30
                                      clear c30
                                      obtain ⟨bq31, hbq31⟩ : ∃ b_ : Bool, b_ = (rdOf false x7_2 x48_3) := ⟨_, rfl⟩
                                      replace H : (if bq31 = true then (if (rd t101 x38_2) < 0 then (impl_Like.l2 k3 a0 x10_3 x48_3 t101 (t101.length : Int) x38_2) else (if x48_3 < (a0.size : Int) then (if (wrap64 (bt a0 x48_3)) = (rd t101 x38_2) then (if 0 ≤ (wrap64 (x48_3 + 1)) then (if (wrap64 (x48_3 + 1)) < (x10_3.length : Int) then (impl_Like.l1 k3 a0 x7_2 (rd t101 x38_2) (x10_3.set ((wrap64 (x48_3 + 1)) : Int).toNat true) t101 (t101.length : Int) x38_2 (x7_2.length : Int) (wrap64 (x48_3 + 1))) else (none)) else (none)) else (impl_Like.l1 k3 a0 x7_2 (rd t101 x38_2) x10_3 t101 (t101.length : Int) x38_2 (x7_2.length : Int) (wrap64 (x48_3 + 1)))) else (impl_Like.l1 k3 a0 x7_2 (rd t101 x38_2) x10_3 t101 (t101.length : Int) x38_2 (x7_2.length : Int) (wrap64 (x48_3 + 1))))) else (impl_Like.l1 k3 a0 x7_2 (rd t101 x38_2) x10_3 t101 (t101.length : Int) x38_2 (x7_2.length : Int) (wrap64 (x48_3 + 1)))) = some r := by rw [← hbq31] at H; exact H
                                      have Nbq31 := Aside0.mk hbq31
                                      clear hbq31
                                      by_cases c32 : bq31 = true
                                      · subst c32
                                        have H1 : (if (rd t101 x38_2) < 0 then (impl_Like.l2 k3 a0 x10_3 x48_3 t101 (t101.length : Int) x38_2) else (if x48_3 < (a0.size : Int) then (if (wrap64 (bt a0 x48_3)) = (rd t101 x38_2) then (if 0 ≤ (wrap64 (x48_3 + 1)) then (if (wrap64 (x48_3 + 1)) < (x10_3.length : Int) then (impl_Like.l1 k3 a0 x7_2 (rd t101 x38_2) (x10_3.set ((wrap64 (x48_3 + 1)) : Int).toNat true) t101 (t101.length : Int) x38_2 (x7_2.length : Int) (wrap64 (x48_3 + 1))) else (none)) else (none)) else (impl_Like.l1 k3 a0 x7_2 (rd t101 x38_2) x10_3 t101 (t101.length : Int) x38_2 (x7_2.length : Int) (wrap64 (x48_3 + 1)))) else (impl_Like.l1 k3 a0 x7_2 (rd t101 x38_2) x10_3 t101 (t101.length : Int) x38_2 (x7_2.length : Int) (wrap64 (x48_3 + 1))))) = some r := by rw [if_pos rfl] at H; exact H
                                        clear H
                                        have H := H1
                                        clear H1
                                        by_cases c33 : (rd t101 x38_2) < 0
                                        · rw [if_pos c33] at H
                                          have c33b0 : decide ((rd t101 x38_2) < 0) = true := decide_eq_true c33
                                          clear c33
                                          have H' := Aside0.mk H
                                          clear H
                                          have p114 : 0 ≤ (x48_3 : Int) := of_decide_eq_true (by first | (with_reducible assumption) | assumption)
                                          have q114 : x48_3 < (x7_2.length : Int) := of_decide_eq_true (by first | (with_reducible assumption) | assumption)
                                          obtain ⟨ad114, e114, hx114_0⟩ := Kd.at_bool (Kd.R_reads' HO_7.out).2.2 x48_3 p114 q114
                                          (try rw [← Nbq31.out] at hx114_0)
                                          cases e114
                                          replace p114 := eq_true p114
                                          replace q114 := eq_true q114
                                          go_wp2
                                          go_loopg [12] k3 (fun kq v12 w' => ∃ (x10_4 : List Bool) (x12_4 : Int), v12 = .int .i64 x12_4 ∧ Aside0 (impl_Like.l2 kq a0 x10_4 x12_4 t101 (t101.length : Int) x38_2 = some r) ∧ Aside0 (kq ≤ k3) ∧ Aside0 (Kd.R Kd.bool 4 w' w.heap.size (fun _ => True) v112 x10_4) ∧ Aside0 (Kd.R (Kd.int .i64) 3 w' w.heap.size (fun _ => True) (.slice (some ad110) t101.length co18) t101) ∧ Aside0 (Below w.heap.size w w'))
                                          case atStart => exact ⟨(x10_3), (x48_3), (by first | rfl | (simp; done) | (simp [*]; done)), H', ⟨Nat.le_refl _⟩, ⟨by (with_reducible repeat (first | apply Kd.R_alloc | apply Kd.R_drewN | apply Kd.R_drew)); exact Kd.R_mono HO_10.out (fun _ hk => trivial)⟩, ⟨by (with_reducible repeat (first | apply Kd.R_alloc | apply Kd.R_drewN | apply Kd.R_drew)); exact HO_36.out⟩, ⟨by repeat (first | (with_reducible first | exact HB.out | apply below_alloc | apply pw_below_drewN | apply below_drew1) | exact HB.out)⟩⟩
                                          case round =>
                                            clear H'
                                            try clear c1
                                            try clear p1
                                            try clear q1
                                            try clear hx1
                                            try clear qi1
                                            try clear c2
                                            try clear p2
                                            try clear c3
                                            try clear q3
                                            try clear c5
                                            try clear c6
                                            try clear p6
                                            try clear c7
                                            try clear c7b0
                                            try clear c7b1
                                            try clear c8
                                            try clear c10
                                            try clear c10b0
                                            try clear c10b1
                                            try clear c11
                                            try clear c11b0
                                            try clear c11b1
                                            try clear p11
                                            try clear q11
                                            try clear hx11
                                            try clear c12
                                            try clear c12b0
                                            try clear c12b1
                                            try clear p13
                                            try clear q13
                                            try clear hx13
                                            try clear qi13
                                            try clear hf13
                                            try clear c19
                                            try clear c19b0
                                            try clear c20
                                            try clear c20b0
                                            try clear c21
                                            try clear c21b0
                                            try clear c23
                                            try clear c23b0
                                            try clear c23b1
                                            try clear c24
                                            try clear c24b0
                                            try clear c24b1
                                            try clear c28
                                            try clear c28b0
                                            try clear c29
                                            try clear c29b0
                                            try clear c30
                                            try clear c30b0
                                            try clear q31
                                            try clear c32
                                            try clear c33
                                            try clear c33b0
                                            try clear hx110_0
                                            try clear hx114_0
                                            try clear hx13_0
                                            try clear p1
                                            try clear p11
                                            try clear p110
                                            try clear p114
                                            try clear p13
                                            try clear p2
                                            try clear p6
                                            try clear q1
                                            try clear q11
                                            try clear q110
                                            try clear q114
                                            try clear q13
                                            obtain ⟨x10_4, x12_4, rfl, HA, HK4, HO_10, HO_36, HB⟩ := hrel
                                            cases gk with
                                            | zero => exact absurd HA.out (by simp [impl_Like.l2])
                                            | succ k4 =>
                                              have H := HA.out
                                              clear HA
                                              simp only [impl_Like.l2] at H
                                              by_cases c34 : x12_4 ≤ (a0.size : Int)
                                              · rw [if_pos c34] at H
                                                have c34b0 : decide (x12_4 ≤ (a0.size : Int)) = true := decide_eq_true c34
                                                clear c34
                                                by_cases c35 : 0 ≤ x12_4
                                                · rw [if_pos c35] at H
                                                  have c35b0 : decide (0 ≤ x12_4) = true := decide_eq_true c35
                                                  clear c35
                                                  by_cases c36 : x12_4 < (x10_4.length : Int)
                                                  · rw [if_pos c36] at H
                                                    have c36b0 : decide (x12_4 < (x10_4.length : Int)) = true := decide_eq_true c36
                                                    clear c36
                                                    obtain ⟨y115, hy115⟩ : ∃ y_ : List Bool, y_ = (x10_4.set (x12_4 : Int).toNat true) := ⟨_, rfl⟩
                                                    replace H : (impl_Like.l2 k4 a0 y115 (wrap64 (x12_4 + 1)) t101 (t101.length : Int) x38_2) = some r := by first | (rw [hy115]; with_reducible exact H) | (have H2_ := (Option.bind_some _ _).symm.trans H; rw [hy115]; with_reducible exact H2_) | (have H2_ := (Option.bind_some _ _).symm.trans H; with_reducible exact H2_) | with_reducible exact H | (rw [hy115]; exact H) | exact H
                                                    have Ny115 := Aside0.mk hy115
                                                    clear hy115
                                                    have H' := Aside0.mk H
                                                    clear H
                                                    have p37 : 0 ≤ (x12_4 : Int) := of_decide_eq_true (by first | (with_reducible assumption) | assumption)
                                                    have q37 : (x12_4 : Int) < ((x10_4.length : Int) : Int) := of_decide_eq_true (by first | (with_reducible assumption) | assumption)
                                                    obtain ⟨go37, co37, eo37, gb37, gl37, cl37, HG37⟩ := Kd.R_form HO_10.out (by omega)
                                                    (first | cases eo37 | (injection eo37 with ea_ en_ ec_; (first | subst ea_ | (injection ea_ with ea_; subst ea_)); subst ec_; clear en_))
                                                    have GB37 := Aside0.mk gb37
                                                    have GG37 := Aside0.mk HG37
                                                    clear gb37 gl37 HG37
                                                    obtain ⟨hx37_0, hf37_0⟩ := Kd.R_celln false HO_10.out (x12_4 : Int) p37 q37
                                                    replace p37 := eq_true p37
                                                    replace q37 := eq_true q37
                                                    have HP38 := Kd.R_putg HO_10.out (x12_4 : Int) true
                                                    go_wp2_with (first | ((with_reducible refine gate_store (t := 4) (p := 67) rfl ?_); refine store_event (t := 4) (p := 67) (v := ?vo_w39) (w1 := (wr.setCell ⟨go37, (x12_4 : Int).toNat, none⟩ (.bool true))) ?hg ?ho ?hn ?hr ?_; (case ho => rfl); (case hg => rfl); (case hn => rfl); (case hr => first | (go_simp; done) | (go_simp; rfl)); intro w39 hw; have hg : wr.grownBy w39 (some go37) := (by rw [hw]; exact HP38.2); have hp_ : Kd.R Kd.bool 4 w39 w.heap.size (fun _ => True) (.slice (some ⟨go37, 0, none⟩) x10_4.length co37) y115 := (by rw [hw, Ny115.out]; exact HP38.1); clear HP38; have n0_ := Aside0.mk (hp_); have n1_ := Aside0.mk (Kd.R_over' (v := (.slice (some ⟨go37, 0, none⟩) x10_4.length co37)) (by (with_reducible repeat (first | apply Kd.R_alloc | apply Kd.R_drewN | apply Kd.R_drew)); exact HO_36.out) (Kd.R_typed HO_10.out) (by decide) hg); have n2_ := Aside0.mk ((by rw [hw]; exact below_set (HB.out) GB37.out : Below w.heap.size w w39)); clear HO_10; clear HO_36; clear HB; have HO_10 := n0_; have HO_36 := n1_; have HB := n2_; clear n0_ n1_ n2_; clear hg hw hp_))
                                                    go_roundg k4
                                                    case measure => have := HJ3.out; have := HK2.out; have := HK3.out; have := HK4.out; omega
                                                    case rel => exact ⟨(y115), (wrap64 (x12_4 + 1)), (by first | rfl | (simp; done) | (simp [*]; done)), H', ⟨by have := HJ3.out; have := HK2.out; have := HK3.out; have := HK4.out; omega⟩, ⟨by (with_reducible repeat (first | apply Kd.R_alloc | apply Kd.R_drewN | apply Kd.R_drew)); exact HO_10.out⟩, ⟨by (with_reducible repeat (first | apply Kd.R_alloc | apply Kd.R_drewN | apply Kd.R_drew)); exact HO_36.out⟩, ⟨by repeat (first | (with_reducible first | exact HB.out | apply below_alloc | apply pw_below_drewN | apply below_drew1) | exact HB.out)⟩⟩
                                                  · rw [if_neg c36] at H
                                                    exact absurd H (by simp)
                                                · rw [if_neg c35] at H
                                                  exact absurd H (by simp)
                                              · rw [if_neg c34] at H
                                                have c34b0 : decide (x12_4 ≤ (a0.size : Int)) = false := decide_eq_false c34
                                                clear c34
                                                have H' := Aside0.mk H
                                                clear H
                                                go_wp2
                                                go_roundg k4
                                                case measure => have := HJ3.out; have := HK2.out; have := HK3.out; have := HK4.out; omega
                                                case rel => exact ⟨(x10_4), (wrap64 (x38_2 + 1)), (by first | rfl | (simp; done) | (simp [*]; done)), H', ⟨by have := HJ3.out; have := HK2.out; have := HK3.out; have := HK4.out; omega⟩, ⟨by (with_reducible repeat (first | apply Kd.R_alloc | apply Kd.R_drewN | apply Kd.R_drew)); exact HO_10.out⟩, ⟨by (with_reducible repeat (first | apply Kd.R_alloc | apply Kd.R_drewN | apply Kd.R_drew)); exact HO_36.out⟩, ⟨by repeat (first | (with_reducible first | exact HB.out | apply below_alloc | apply pw_below_drewN | apply below_drew1) | exact HB.out)⟩⟩
                                        · rw [if_neg c33] at H
                                          have c33b0 : decide ((rd t101 x38_2) < 0) = false := decide_eq_false c33
                                          clear c33
                                          by_cases c40 : x48_3 < (a0.size : Int)
                                          · rw [if_pos c40] at H
                                            have c40b0 : decide (x48_3 < (a0.size : Int)) = true := decide_eq_true c40
                                            clear c40
                                            by_cases c42 : (wrap64 (bt a0 x48_3)) = (rd t101 x38_2)
                                            · rw [if_pos c42] at H
                                              have c42b0 : ((wrap64 (bt a0 x48_3)) == (rd t101 x38_2)) = true := beq_iff_eq.mpr c42
                                              have c42b1 : ((wrap64 (bt a0 x48_3)) != (rd t101 x38_2)) = false := bne_eq_false_iff_eq.mpr c42
                                              clear c42
                                              obtain ⟨ji43, hji43⟩ : ∃ j_ : Int, (wrap64 (x48_3 + 1)) = j_ := ⟨_, rfl⟩
                                              replace H : (if 0 ≤ (ji43) then (if (ji43) < (x10_3.length : Int) then (impl_Like.l1 k3 a0 x7_2 (rd t101 x38_2) (x10_3.set ((ji43) : Int).toNat true) t101 (t101.length : Int) x38_2 (x7_2.length : Int) ji43) else (none)) else (none)) = some r := by first | (rw [hji43] at H; exact H) | (simp only [hji43] at H ⊢; exact H)
                                              have hji43w : (IntKind.i64.wrap (x48_3 + 1)) = ji43 := (i64_w _).trans hji43
                                              by_cases c44 : 0 ≤ (ji43)
                                              · rw [if_pos c44] at H
                                                have c44b0 : decide (0 ≤ (ji43)) = true := decide_eq_true c44
                                                clear c44
                                                by_cases c45 : (ji43) < (x10_3.length : Int)
                                                · rw [if_pos c45] at H
                                                  have c45b0 : decide ((ji43) < (x10_3.length : Int)) = true := decide_eq_true c45
                                                  clear c45
                                                  obtain ⟨y116, hy116⟩ : ∃ y_ : List Bool, y_ = (x10_3.set ((ji43) : Int).toNat true) := ⟨_, rfl⟩
                                                  replace H : (impl_Like.l1 k3 a0 x7_2 (rd t101 x38_2) y116 t101 (t101.length : Int) x38_2 (x7_2.length : Int) ji43) = some r := by first | (rw [hy116]; with_reducible exact H) | (have H2_ := (Option.bind_some _ _).symm.trans H; rw [hy116]; with_reducible exact H2_) | (have H2_ := (Option.bind_some _ _).symm.trans H; with_reducible exact H2_) | with_reducible exact H | (rw [hy116]; exact H) | exact H
                                                  have Ny116 := Aside0.mk hy116
                                                  clear hy116
                                                  have H' := Aside0.mk H
                                                  clear H
                                                  have p114 : 0 ≤ (x48_3 : Int) := of_decide_eq_true (by first | (with_reducible assumption) | assumption)
                                                  have q114 : x48_3 < (x7_2.length : Int) := of_decide_eq_true (by first | (with_reducible assumption) | assumption)
                                                  obtain ⟨ad114, e114, hx114_0⟩ := Kd.at_bool (Kd.R_reads' HO_7.out).2.2 x48_3 p114 q114
                                                  (try rw [← Nbq31.out] at hx114_0)
                                                  cases e114
                                                  replace p114 := eq_true p114
                                                  replace q114 := eq_true q114
                                                  have p41 : 0 ≤ (x48_3 : Int) := of_decide_eq_true (by first | (with_reducible assumption) | assumption)
                                                  have q41 : x48_3 < (a0.size : Int) := of_decide_eq_true (by first | (with_reducible assumption) | assumption)
                                                  have hx41 := bt_at a0 x48_3
                                                  replace p41 := eq_true p41
                                                  replace q41 := eq_true q41
                                                  have p46 : 0 ≤ ((ji43) : Int) := of_decide_eq_true (by first | (with_reducible assumption) | assumption)
                                                  have q46 : ((ji43) : Int) < ((x10_3.length : Int) : Int) := of_decide_eq_true (by first | (with_reducible assumption) | assumption)
                                                  obtain ⟨go46, co46, eo46, gb46, gl46, cl46, HG46⟩ := Kd.R_form HO_10.out (by omega)
                                                  (first | cases eo46 | (injection eo46 with ea_ en_ ec_; (first | subst ea_ | (injection ea_ with ea_; subst ea_)); subst ec_; clear en_))
                                                  have GB46 := Aside0.mk gb46
                                                  have GG46 := Aside0.mk HG46
                                                  clear gb46 gl46 HG46
                                                  obtain ⟨hx46_0, hf46_0⟩ := Kd.R_celln false HO_10.out ((ji43) : Int) p46 q46
                                                  replace p46 := eq_true p46
                                                  replace q46 := eq_true q46
                                                  have HP47 := Kd.R_putg HO_10.out ((ji43) : Int) true
                                                  go_wp2_with (first | ((with_reducible refine gate_store (t := 4) (p := 83) rfl ?_); refine store_event (t := 4) (p := 83) (v := ?vo_w48) (w1 := (wr.setCell ⟨go46, ((ji43) : Int).toNat, none⟩ (.bool true))) ?hg ?ho ?hn ?hr ?_; (case ho => rfl); (case hg => rfl); (case hn => rfl); (case hr => first | (go_simp; done) | (go_simp; rfl)); intro w48 hw; have hg : wr.grownBy w48 (some go46) := (by rw [hw]; exact HP47.2); have hp_ : Kd.R Kd.bool 4 w48 w.heap.size (fun k_ => some k_ ≠ (.slice (some ad114) x7_2.length co27 : Value).ownBlock) (.slice (some ⟨go46, 0, none⟩) x10_3.length co46) y116 := (by rw [hw, Ny116.out]; exact HP47.1); clear HP47; have n0_ := Aside0.mk (Kd.R_after (v := (.slice (some ⟨go46, 0, none⟩) x10_3.length co46)) (v1 := (.slice (some ⟨go46, 0, none⟩) x10_3.length co46)) (ok := (fun _ => True)) (by (with_reducible repeat (first | apply Kd.R_alloc | apply Kd.R_drewN | apply Kd.R_drew)); exact Kd.R_mono HO_7.out (fun _ hk => ⟨trivial, hk⟩)) hg (.inl rfl)); have n1_ := Aside0.mk (hp_); have n2_ := Aside0.mk (Kd.R_over' (v := (.slice (some ⟨go46, 0, none⟩) x10_3.length co46)) (by (with_reducible repeat (first | apply Kd.R_alloc | apply Kd.R_drewN | apply Kd.R_drew)); exact HO_36.out) (Kd.R_typed HO_10.out) (by decide) hg); have n3_ := Aside0.mk ((by rw [hw]; exact below_set (HB.out) GB46.out : Below w.heap.size w w48)); clear HO_7; clear HO_10; clear HO_36; clear HB; have HO_7 := n0_; have HO_10 := n1_; have HO_36 := n2_; have HB := n3_; clear n0_ n1_ n2_ n3_; clear hg hw hp_))
                                                  go_roundg k3
                                                  case measure => have := HJ3.out; have := HK2.out; have := HK3.out; omega
                                                  case rel => exact ⟨(y116), (ji43), (by first | rfl | (simp; done) | (simp only [← hji43] <;> (first | rfl | simp)) | (simp [*]; done)), H', ⟨by have := HJ3.out; have := HK2.out; have := HK3.out; omega⟩, ⟨by (with_reducible repeat (first | apply Kd.R_alloc | apply Kd.R_drewN | apply Kd.R_drew)); exact Kd.R_mono HO_7.out (fun _ hk => hk.2)⟩, ⟨by (with_reducible repeat (first | apply Kd.R_alloc | apply Kd.R_drewN | apply Kd.R_drew)); exact HO_10.out⟩, ⟨by (with_reducible repeat (first | apply Kd.R_alloc | apply Kd.R_drewN | apply Kd.R_drew)); exact HO_36.out⟩, ⟨by repeat (first | (with_reducible first | exact HB.out | apply below_alloc | apply pw_below_drewN | apply below_drew1) | exact HB.out)⟩⟩
                                                · rw [if_neg c45] at H
                                                  exact absurd H (by simp)
                                              · rw [if_neg c44] at H
                                                exact absurd H (by simp)
                                            · rw [if_neg c42] at H
                                              have c42b0 : ((wrap64 (bt a0 x48_3)) == (rd t101 x38_2)) = false := beq_eq_false_iff_ne.mpr c42
                                              have c42b1 : ((wrap64 (bt a0 x48_3)) != (rd t101 x38_2)) = true := bne_iff_ne.mpr c42
                                              have H' := Aside0.mk H
                                              clear H
                                              have p114 : 0 ≤ (x48_3 : Int) := of_decide_eq_true (by first | (with_reducible assumption) | assumption)
                                              have q114 : x48_3 < (x7_2.length : Int) := of_decide_eq_true (by first | (with_reducible assumption) | assumption)
                                              obtain ⟨ad114, e114, hx114_0⟩ := Kd.at_bool (Kd.R_reads' HO_7.out).2.2 x48_3 p114 q114
                                              (try rw [← Nbq31.out] at hx114_0)
                                              cases e114
                                              replace p114 := eq_true p114
                                              replace q114 := eq_true q114
                                              have p41 : 0 ≤ (x48_3 : Int) := of_decide_eq_true (by first | (with_reducible assumption) | assumption)
                                              have q41 : x48_3 < (a0.size : Int) := of_decide_eq_true (by first | (with_reducible assumption) | assumption)
                                              have hx41 := bt_at a0 x48_3
                                              replace p41 := eq_true p41
                                              replace q41 := eq_true q41
                                              go_wp2
                                              go_roundg k3
                                              case measure => have := HJ3.out; have := HK2.out; have := HK3.out; omega
                                              case rel => exact ⟨(x10_3), (wrap64 (x48_3 + 1)), (by first | rfl | (simp; done) | (simp [*]; done)), H', ⟨by have := HJ3.out; have := HK2.out; have := HK3.out; omega⟩, ⟨by (with_reducible repeat (first | apply Kd.R_alloc | apply Kd.R_drewN | apply Kd.R_drew)); exact HO_7.out⟩, ⟨by (with_reducible repeat (first | apply Kd.R_alloc | apply Kd.R_drewN | apply Kd.R_drew)); exact HO_10.out⟩, ⟨by (with_reducible repeat (first | apply Kd.R_alloc | apply Kd.R_drewN | apply Kd.R_drew)); exact HO_36.out⟩, ⟨by repeat (first | (with_reducible first | exact HB.out | apply below_alloc | apply pw_below_drewN | apply below_drew1) | exact HB.out)⟩⟩
                                          · rw [if_neg c40] at H
                                            have c40b0 : decide (x48_3 < (a0.size : Int)) = false := decide_eq_false c40
                                            clear c40
                                            have H' := Aside0.mk H
                                            clear H
                                            have p114 : 0 ≤ (x48_3 : Int) := of_decide_eq_true (by first | (with_reducible assumption) | assumption)
                                            have q114 : x48_3 < (x7_2.length : Int) := of_decide_eq_true (by first | (with_reducible assumption) | assumption)
                                            obtain ⟨ad114, e114, hx114_0⟩ := Kd.at_bool (Kd.R_reads' HO_7.out).2.2 x48_3 p114 q114
                                            (try rw [← Nbq31.out] at hx114_0)
                                            cases e114
                                            replace p114 := eq_true p114
                                            replace q114 := eq_true q114
                                            go_wp2
                                            go_roundg k3
                                            case measure => have := HJ3.out; have := HK2.out; have := HK3.out; omega
                                            case rel => exact ⟨(x10_3), (wrap64 (x48_3 + 1)), (by first | rfl | (simp; done) | (simp [*]; done)), H', ⟨by have := HJ3.out; have := HK2.out; have := HK3.out; omega⟩, ⟨by (with_reducible repeat (first | apply Kd.R_alloc | apply Kd.R_drewN | apply Kd.R_drew)); exact HO_7.out⟩, ⟨by (with_reducible repeat (first | apply Kd.R_alloc | apply Kd.R_drewN | apply Kd.R_drew)); exact HO_10.out⟩, ⟨by (with_reducible repeat (first | apply Kd.R_alloc | apply Kd.R_drewN | apply Kd.R_drew)); exact HO_36.out⟩, ⟨by repeat (first | (with_reducible first | exact HB.out | apply below_alloc | apply pw_below_drewN | apply below_drew1) | exact HB.out)⟩⟩
                                      · replace c32 := Bool.eq_false_iff.mpr c32
                                        subst c32
                                        have H1 : (impl_Like.l1 k3 a0 x7_2 (rd t101 x38_2) x10_3 t101 (t101.length : Int) x38_2 (x7_2.length : Int) (wrap64 (x48_3 + 1))) = some r := by rw [if_neg (show ¬ (false = true) by decide)] at H; exact H
                                        clear H
                                        have H := H1
                                        clear H1
                                        have H' := Aside0.mk H
                                        clear H
                                        have p114 : 0 ≤ (x48_3 : Int) := of_decide_eq_true (by first | (with_reducible assumption) | assumption)
                                        have q114 : x48_3 < (x7_2.length : Int) := of_decide_eq_true (by first | (with_reducible assumption) | assumption)
                                        obtain ⟨ad114, e114, hx114_0⟩ := Kd.at_bool (Kd.R_reads' HO_7.out).2.2 x48_3 p114 q114
                                        (try rw [← Nbq31.out] at hx114_0)
                                        cases e114
                                        replace p114 := eq_true p114
                                        replace q114 := eq_true q114
                                        go_wp2
                                        go_roundg k3
                                        case measure => have := HJ3.out; have := HK2.out; have := HK3.out; omega
                                        case rel => exact ⟨(x10_3), (wrap64 (x48_3 + 1)), (by first | rfl | (simp; done) | (simp [*]; done)), H', ⟨by have := HJ3.out; have := HK2.out; have := HK3.out; omega⟩, ⟨by (with_reducible repeat (first | apply Kd.R_alloc | apply Kd.R_drewN | apply Kd.R_drew)); exact HO_7.out⟩, ⟨by (with_reducible repeat (first | apply Kd.R_alloc | apply Kd.R_drewN | apply Kd.R_drew)); exact HO_10.out⟩, ⟨by (with_reducible repeat (first | apply Kd.R_alloc | apply Kd.R_drewN | apply Kd.R_drew)); exact HO_36.out⟩, ⟨by repeat (first | (with_reducible first | exact HB.out | apply below_alloc | apply pw_below_drewN | apply below_drew1) | exact HB.out)⟩⟩
                                    · rw [if_neg c30] at H
                                      exact absurd H (by simp)
                                  · rw [if_neg c29] at H
                                    exact absurd H (by simp)
                                · rw [if_neg c28] at H
                                  have c28b0 : decide (x48_3 < (x7_2.length : Int)) = false := decide_eq_false c28
                                  clear c28
                                  have H' := Aside0.mk H
                                  clear H
                                  go_wp2
                                  go_roundg k3
                                  case measure => have := HJ3.out; have := HK2.out; have := HK3.out; omega
                                  case rel => exact ⟨(x10_3), (wrap64 (x38_2 + 1)), (by first | rfl | (simp; done) | (simp [*]; done)), H', ⟨by have := HJ3.out; have := HK2.out; have := HK3.out; omega⟩, ⟨by (with_reducible repeat (first | apply Kd.R_alloc | apply Kd.R_drewN | apply Kd.R_drew)); exact Kd.R_mono HO_10.out (fun _ hk => trivial)⟩, ⟨by (with_reducible repeat (first | apply Kd.R_alloc | apply Kd.R_drewN | apply Kd.R_drew)); exact HO_36.out⟩, ⟨by repeat (first | (with_reducible first | exact HB.out | apply below_alloc | apply pw_below_drewN | apply below_drew1) | exact HB.out)⟩⟩
                          · rw [if_neg c24] at H
                            exact absurd H (by simp)
                        · rw [if_neg c23] at H
                          exact absurd H (by simp)
                      · rw [if_neg c21] at H
                        exact absurd H (by simp)
                    · rw [if_neg c20] at H
                      exact absurd H (by simp)
                  · rw [if_neg c19] at H
                    have c19b0 : decide (x38_2 < (t101.length : Int)) = false := decide_eq_false c19
                    clear c19
                    by_cases c49 : 0 ≤ (a0.size : Int)
                    · rw [if_pos c49] at H
                      have c49b0 : decide (0 ≤ (a0.size : Int)) = true := decide_eq_true c49
                      have c49b1 : decide (0 ≤ a0.size) = true := decide_eq_true (by omega)
                      clear c49
                      by_cases c50 : (a0.size : Int) < (x7_2.length : Int)
                      · rw [if_pos c50] at H
                        have c50b0 : decide ((a0.size : Int) < (x7_2.length : Int)) = true := decide_eq_true c50
                        have c50b1 : decide (a0.size < x7_2.length) = true := decide_eq_true (Int.ofNat_lt.mp c50)
                        clear c50
                        obtain rfl := Option.some.inj H
                        obtain ⟨Ao51, co51, eo51⟩ := Kd.R_slice HO_7.out
                        subst eo51
                        have p109 : 0 ≤ ((a0.size : Int) : Int) := of_decide_eq_true (by first | (with_reducible assumption) | assumption)
                        have q109 : (a0.size : Int) < (x7_2.length : Int) := of_decide_eq_true (by first | (with_reducible assumption) | assumption)
                        obtain ⟨ad109, e109, hx109_0⟩ := Kd.at_bool (Kd.R_reads' HO_7.out).2.2 (a0.size : Int) p109 q109
                        cases e109
                        rw [Int.toNat_natCast] at hx109_0
                        replace p109 := eq_true p109
                        replace q109 := eq_true q109
                        go_wp2
                        go_ret
                        exact ⟨by first | rfl | (simp [errW_none, errW_some] <;> rfl) | (simp only [← hji9]; first | rfl | (simp [errW_none, errW_some] <;> rfl)) | (simp [*, errW_none, errW_some] <;> rfl), by repeat (first | (with_reducible first | exact HB.out | apply below_alloc | apply pw_below_drewN | apply below_drew1) | exact HB.out)⟩
                      · rw [if_neg c50] at H
                        exact absurd H (by simp)
                    · rw [if_neg c49] at H
                      exact absurd H (by simp)
            · rw [if_neg c12] at H
              exact absurd H (by simp)
          · rw [if_neg c11] at H
            exact absurd H (by simp)
        · rw [if_neg c10] at H
          exact absurd H (by simp)

end Go.Proofs.Ytccbjchlcelkgaa.Pr
