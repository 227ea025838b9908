-- Written by mkprint.py (a program of this repo, which drives the print.py of the kit): Lean checks it.
import Derived.Test.YtccbjchlcelkgaaPr0x
import Derived.Test.YtccbjchlcelkgaaPr57
namespace Go.Proofs.Ytccbjchlcelkgaa.Pr
open Go.RowKit Go.Proofs.YtccbjchlcelkgaaW.PrintWords Go.Proofs.YtccbjchlcelkgaaW.PrintLast Go.Proofs.YtccbjchlcelkgaaW.PrintMore
attribute [local go_sem] max2_int min2_int max_two min_two max_three min_three max_four min_four   -- for this text's walks alone
set_option linter.unusedVariables false
set_option linter.unusedSimpArgs false

/-! ### spec_Like: function 13 -/
mutual
def spec_Like.j0 : Nat → ByteArray → ByteArray → Bool → Option (Bool)
  | 0, _, _, _ => none
  | k + 1, x0, x1, x21 => if x21 = true then (some false) else ((spec_l1Tokens.f k x1).bind fun bt101 => (if bt101.2 = true then (if 0 ≤ (wrap64 ((bt101.1.length : Int) + 1)) then (if (wrap64 ((bt101.1.length : Int) + 1) : Int).toNat ≤ 281474976710656 then ((some (List.replicate (wrap64 ((bt101.1.length : Int) + 1) : Int).toNat false : List Bool)).bind fun y105 => (if 0 < (y105.length : Int) then (spec_Like.l0 k x0 bt101.1 (y105.set (0 : Int).toNat true) bt101.1 (bt101.1.length : Int) 0) else (none))) else (none)) else (none)) else (some false)))
def spec_Like.l0 : Nat → ByteArray → List Int → List Bool → List Int → Int → Int → Option (Bool)
  | 0, _, _, _, _, _, _ => none
  | k + 1, x0, x5, x7, x35, x36, x37 => if x37 < x36 then (if 0 ≤ x37 then (if x37 < (x35.length : Int) then (if x37 < (x7.length : Int) then (if rdOf false x7 x37 = true then (if 0 ≤ (wrap64 (x37 + 1)) then (if (wrap64 (x37 + 1)) < (x7.length : Int) then (spec_Like.l0 k x0 x5 (x7.set ((wrap64 (x37 + 1)) : Int).toNat ((rd x35 x37) == 256)) x35 x36 (wrap64 (x37 + 1))) else (none)) else (none)) else (if 0 ≤ (wrap64 (x37 + 1)) then (if (wrap64 (x37 + 1)) < (x7.length : Int) then (spec_Like.l0 k x0 x5 (x7.set ((wrap64 (x37 + 1)) : Int).toNat false) x35 x36 (wrap64 (x37 + 1))) else (none)) else (none))) else (none)) else (none)) else (none)) else (spec_Like.l1 k x0 x5 x7 0)
def spec_Like.l1 : Nat → ByteArray → List Int → List Bool → Int → Option (Bool)
  | 0, _, _, _, _ => none
  | k + 1, x0, x5, x7, x10 => if x10 < (x0.size : Int) then (if 0 ≤ (wrap64 ((x5.length : Int) + 1)) then (if (wrap64 ((x5.length : Int) + 1) : Int).toNat ≤ 281474976710656 then (spec_Like.l2 k x0 x5 x7 x10 (List.replicate (wrap64 ((x5.length : Int) + 1) : Int).toNat false) x5 (x5.length : Int) 0) else (none)) else (none)) else (if 0 ≤ (x5.length : Int) then (if (x5.length : Int) < (x7.length : Int) then (some (rdOf false x7 (x5.length : Int))) else (none)) else (none))
def spec_Like.l2 : Nat → ByteArray → List Int → List Bool → Int → List Bool → List Int → Int → Int → Option (Bool)
  | 0, _, _, _, _, _, _, _, _ => none
  | k + 1, x0, x5, x7, x10, x11, x65, x66, x67 => if x67 < x66 then (if 0 ≤ x67 then (if x67 < (x65.length : Int) then (if (rd x65 x67) = 256 then (if 0 ≤ (wrap64 (x67 + 1)) then (if (wrap64 (x67 + 1)) < (x7.length : Int) then (if rdOf false x7 (wrap64 (x67 + 1)) = true then (if (wrap64 (x67 + 1)) < (x11.length : Int) then (spec_Like.l2 k x0 x5 x7 x10 (x11.set ((wrap64 (x67 + 1)) : Int).toNat true) x65 x66 (wrap64 (x67 + 1))) else (none)) else (if x67 < (x11.length : Int) then (if (wrap64 (x67 + 1)) < (x11.length : Int) then (spec_Like.l2 k x0 x5 x7 x10 (x11.set ((wrap64 (x67 + 1)) : Int).toNat (rdOf false x11 x67)) x65 x66 (wrap64 (x67 + 1))) else (none)) else (none))) else (none)) else (none)) else (if x67 < (x7.length : Int) then (if rdOf false x7 x67 = true then (if 0 ≤ x10 then (if x10 < (x0.size : Int) then (if 0 ≤ (wrap64 (x67 + 1)) then (if (wrap64 (x67 + 1)) < (x11.length : Int) then (spec_Like.l2 k x0 x5 x7 x10 (x11.set ((wrap64 (x67 + 1)) : Int).toNat ((rd x65 x67) == (wrap64 (bt x0 x10)))) x65 x66 (wrap64 (x67 + 1))) else (none)) else (none)) else (none)) else (none)) else (if 0 ≤ (wrap64 (x67 + 1)) then (if (wrap64 (x67 + 1)) < (x11.length : Int) then (spec_Like.l2 k x0 x5 x7 x10 (x11.set ((wrap64 (x67 + 1)) : Int).toNat false) x65 x66 (wrap64 (x67 + 1))) else (none)) else (none))) else (none))) else (none)) else (none)) else (spec_Like.l1 k x0 x5 x11 (wrap64 (x10 + 1)))
end
def spec_Like.f (k : Nat) (a0 : ByteArray) (a1 : ByteArray) : Option (Bool) := if (a0.size : Int) > 200 then (spec_Like.j0 k a0 a1 true) else (spec_Like.j0 k a0 a1 (decide ((a1.size : Int) > 200)))
theorem spec_Like.mono_l : ∀ k, (∀ y0 y1 y2, LeO (spec_Like.j0 k y0 y1 y2) (spec_Like.j0 (k + 1) y0 y1 y2)) ∧ (∀ y0 y1 y2 y3 y4 y5, LeO (spec_Like.l0 k y0 y1 y2 y3 y4 y5) (spec_Like.l0 (k + 1) y0 y1 y2 y3 y4 y5)) ∧ (∀ y0 y1 y2 y3, LeO (spec_Like.l1 k y0 y1 y2 y3) (spec_Like.l1 (k + 1) y0 y1 y2 y3)) ∧ (∀ y0 y1 y2 y3 y4 y5 y6 y7, LeO (spec_Like.l2 k y0 y1 y2 y3 y4 y5 y6 y7) (spec_Like.l2 (k + 1) y0 y1 y2 y3 y4 y5 y6 y7))
  | 0 => ⟨fun _ _ _ r h => by simp [spec_Like.j0] at h, fun _ _ _ _ _ _ r h => by simp [spec_Like.l0] at h, fun _ _ _ _ r h => by simp [spec_Like.l1] at h, fun _ _ _ _ _ _ _ _ r h => by simp [spec_Like.l2] at h⟩
  | k + 1 => by
    obtain ⟨ih0, ih1, ih2, ih3⟩ := spec_Like.mono_l k
    refine ⟨?_, ?_, ?_, ?_⟩
    · intro y0 y1 y2
      unfold spec_Like.j0
      repeat' first
      | (with_reducible exact ih0 _ _ _)
      | (with_reducible exact ih1 _ _ _ _ _ _)
      | (with_reducible exact ih2 _ _ _ _)
      | (with_reducible exact ih3 _ _ _ _ _ _ _ _)
      | (with_reducible exact spec_l1Tokens.mono _ _)
      | (with_reducible exact LeO.refl _)
      | (with_reducible exact LeO.none _)
      | (with_reducible refine LeO.ite ?_ ?_)
      | (with_reducible refine LeO.bind ?_ (fun _ => ?_))
      | exact ih0 _ _ _
      | exact ih1 _ _ _ _ _ _
      | exact ih2 _ _ _ _
      | exact ih3 _ _ _ _ _ _ _ _
      | exact spec_l1Tokens.mono _ _
      | exact LeO.none _
      | refine LeO.ite ?_ ?_
      | refine LeO.bind ?_ (fun _ => ?_)
    · intro y0 y1 y2 y3 y4 y5
      unfold spec_Like.l0
      repeat' first
      | (with_reducible exact ih0 _ _ _)
      | (with_reducible exact ih1 _ _ _ _ _ _)
      | (with_reducible exact ih2 _ _ _ _)
      | (with_reducible exact ih3 _ _ _ _ _ _ _ _)
      | (with_reducible exact spec_l1Tokens.mono _ _)
      | (with_reducible exact LeO.refl _)
      | (with_reducible exact LeO.none _)
      | (with_reducible refine LeO.ite ?_ ?_)
      | (with_reducible refine LeO.bind ?_ (fun _ => ?_))
      | exact ih0 _ _ _
      | exact ih1 _ _ _ _ _ _
      | exact ih2 _ _ _ _
      | exact ih3 _ _ _ _ _ _ _ _
      | exact spec_l1Tokens.mono _ _
      | exact LeO.none _
      | refine LeO.ite ?_ ?_
      | refine LeO.bind ?_ (fun _ => ?_)
    · intro y0 y1 y2 y3
      unfold spec_Like.l1
      repeat' first
      | (with_reducible exact ih0 _ _ _)
      | (with_reducible exact ih1 _ _ _ _ _ _)
      | (with_reducible exact ih2 _ _ _ _)
      | (with_reducible exact ih3 _ _ _ _ _ _ _ _)
      | (with_reducible exact spec_l1Tokens.mono _ _)
      | (with_reducible exact LeO.refl _)
      | (with_reducible exact LeO.none _)
      | (with_reducible refine LeO.ite ?_ ?_)
      | (with_reducible refine LeO.bind ?_ (fun _ => ?_))
      | exact ih0 _ _ _
      | exact ih1 _ _ _ _ _ _
      | exact ih2 _ _ _ _
      | exact ih3 _ _ _ _ _ _ _ _
      | exact spec_l1Tokens.mono _ _
      | exact LeO.none _
      | refine LeO.ite ?_ ?_
      | refine LeO.bind ?_ (fun _ => ?_)
    · intro y0 y1 y2 y3 y4 y5 y6 y7
      unfold spec_Like.l2
      repeat' first
      | (with_reducible exact ih0 _ _ _)
      | (with_reducible exact ih1 _ _ _ _ _ _)
      | (with_reducible exact ih2 _ _ _ _)
      | (with_reducible exact ih3 _ _ _ _ _ _ _ _)
      | (with_reducible exact spec_l1Tokens.mono _ _)
      | (with_reducible exact LeO.refl _)
      | (with_reducible exact LeO.none _)
      | (with_reducible refine LeO.ite ?_ ?_)
      | (with_reducible refine LeO.bind ?_ (fun _ => ?_))
      | exact ih0 _ _ _
      | exact ih1 _ _ _ _ _ _
      | exact ih2 _ _ _ _
      | exact ih3 _ _ _ _ _ _ _ _
      | exact spec_l1Tokens.mono _ _
      | exact LeO.none _
      | refine LeO.ite ?_ ?_
      | refine LeO.bind ?_ (fun _ => ?_)
theorem spec_Like.mono : ∀ a0 a1 k, LeO (spec_Like.f k a0 a1) (spec_Like.f (k + 1) a0 a1) := by
  intro a0 a1 k
  obtain ⟨ih0, ih1, ih2, ih3⟩ := spec_Like.mono_l k
  unfold spec_Like.f
  repeat' first
      | (with_reducible exact ih0 _ _ _)
      | (with_reducible exact ih1 _ _ _ _ _ _)
      | (with_reducible exact ih2 _ _ _ _)
      | (with_reducible exact ih3 _ _ _ _ _ _ _ _)
      | (with_reducible exact spec_l1Tokens.mono _ _)
      | (with_reducible exact LeO.refl _)
      | (with_reducible exact LeO.none _)
      | (with_reducible refine LeO.ite ?_ ?_)
      | (with_reducible refine LeO.bind ?_ (fun _ => ?_))
      | exact ih0 _ _ _
      | exact ih1 _ _ _ _ _ _
      | exact ih2 _ _ _ _
      | exact ih3 _ _ _ _ _ _ _ _
      | exact spec_l1Tokens.mono _ _
      | exact LeO.none _
      | refine LeO.ite ?_ ?_
      | refine LeO.bind ?_ (fun _ => ?_)
set_option maxHeartbeats 8000000 in
set_option maxRecDepth 100000 in
theorem spec_Like.calls (k : Nat) (a0 : ByteArray) (a1 : ByteArray) (r : Bool) (w : World) (h : spec_Like.f k a0 a1 = some r) :
    Calls Try.prog 13 #[.string a0, .string a1] w fun e w' => e = .returned (.bool r) ∧ Below w.heap.size w w' := by
  have HB := Aside0.mk (Below.refl w.heap.size w)
  have H : (if (a0.size : Int) > 200 then (spec_Like.j0 k a0 a1 true) else (spec_Like.j0 k a0 a1 (decide ((a1.size : Int) > 200)))) = some r := h
  clear h
  have HC3 := Aside0.mk H
  clear H
  go_enter Try.func13, Try.ntmps13
  go_upto_region 1 with (fail)
  go_cut [21] (fun v21 wc => ∃ (kq : Nat) (x21_2 : Bool), v21 = .bool x21_2 ∧ Aside0 (spec_Like.j0 kq a0 a1 x21_2 = some r) ∧ Aside0 (kq ≤ k) ∧ Aside0 (Below w.heap.size w wc))
  case first =>
    have H := HC3.out
    clear HC3
    by_cases c4 : (a0.size : Int) > 200
    · rw [if_pos c4] at H
      have c4b0 : decide (200 < (a0.size : Int)) = true := decide_eq_true c4
      have c4b1 : decide (200 < a0.size) = true := decide_eq_true (by omega)
      clear c4
      (first | rw [c4b0] | (simp only [i64_w, i32_w]; rw [c4b0]) | skip)
      have H' := Aside0.mk H
      clear H
      go_wp2
      go_meet
      case rel => exact ⟨_, (true), (by first | rfl | (simp; done) | (simp [*]; done)), H', ⟨by first | omega | exact Nat.le_refl _⟩, ⟨by repeat (first | (with_reducible first | exact HB.out | apply below_alloc | apply pw_below_drewN | apply below_drew1) | exact HB.out)⟩⟩
    · rw [if_neg c4] at H
      have c4b0 : decide (200 < (a0.size : Int)) = false := decide_eq_false c4
      have c4b1 : decide (200 < a0.size) = false := decide_eq_false (by omega)
      clear c4
      (first | rw [c4b0] | (simp only [i64_w, i32_w]; rw [c4b0]) | skip)
      have H' := Aside0.mk H
      clear H
      go_wp2
      go_meet
      case rel => exact ⟨_, (decide ((a1.size : Int) > 200)), (by first | rfl | (simp; done) | (simp [*]; done)), H', ⟨by first | omega | exact Nat.le_refl _⟩, ⟨by repeat (first | (with_reducible first | exact HB.out | apply below_alloc | apply pw_below_drewN | apply below_drew1) | exact HB.out)⟩⟩
  case rest =>
    clear HC3
    try clear c1
    try clear p2
    try clear c4
    try clear c4b0
    try clear c4b1
    obtain ⟨kq, x21_2, rfl, HA, HJ2, HB⟩ := hcut
    cases kq with
    | zero => exact absurd HA.out (by simp [spec_Like.j0])
    | succ kj2 =>
      have H := HA.out
      clear HA
      simp only [spec_Like.j0] at H
      by_cases c5 : x21_2 = true
      · subst c5
        have H1 : (some false) = some r := by rw [if_pos rfl] at H; exact H
        clear H
        have H := H1
        clear H1
        obtain rfl := Option.some.inj H
        go_wp2
        go_ret
        exact ⟨by first | rfl | (simp [errW_none, errW_some] <;> rfl) | (simp [*, errW_none, errW_some] <;> rfl), by repeat (first | (with_reducible first | exact HB.out | apply below_alloc | apply pw_below_drewN | apply below_drew1) | exact HB.out)⟩
      · replace c5 := Bool.eq_false_iff.mpr c5
        subst c5
        have H1 : ((spec_l1Tokens.f kj2 a1).bind fun bt101 => (if bt101.2 = true then (if 0 ≤ (wrap64 ((bt101.1.length : Int) + 1)) then (if (wrap64 ((bt101.1.length : Int) + 1) : Int).toNat ≤ 281474976710656 then ((some (List.replicate (wrap64 ((bt101.1.length : Int) + 1) : Int).toNat false : List Bool)).bind fun y105 => (if 0 < (y105.length : Int) then (spec_Like.l0 kj2 a0 bt101.1 (y105.set (0 : Int).toNat true) bt101.1 (bt101.1.length : Int) 0) else (none))) else (none)) else (none)) else (some false))) = some r := by rw [if_neg (show ¬ (false = true) by decide)] at H; exact H
        clear H
        have H := H1
        clear H1
        replace H := Option.bind_eq_some_iff.mp H
        obtain ⟨⟨t101, t102⟩, A60, H⟩ := H
        replace H : (if t102 = true then (if 0 ≤ (wrap64 ((t101.length : Int) + 1)) then (if (wrap64 ((t101.length : Int) + 1) : Int).toNat ≤ 281474976710656 then ((some (List.replicate (wrap64 ((t101.length : Int) + 1) : Int).toNat false : List Bool)).bind fun y105 => (if 0 < (y105.length : Int) then (spec_Like.l0 kj2 a0 t101 (y105.set (0 : Int).toNat true) t101 (t101.length : Int) 0) else (none))) else (none)) else (none)) else (some false)) = some r := H
        have A6 := Aside0.mk A60
        clear A60
        by_cases c7 : t102 = true
        · subst c7
          have H1 : (if 0 ≤ (wrap64 ((t101.length : Int) + 1)) then (if (wrap64 ((t101.length : Int) + 1) : Int).toNat ≤ 281474976710656 then ((some (List.replicate (wrap64 ((t101.length : Int) + 1) : Int).toNat false : List Bool)).bind fun y105 => (if 0 < (y105.length : Int) then (spec_Like.l0 kj2 a0 t101 (y105.set (0 : Int).toNat true) t101 (t101.length : Int) 0) else (none))) else (none)) else (none)) = some r := by rw [if_pos rfl] at H; exact H
          clear H
          have H := H1
          clear H1
          obtain ⟨ji8, hji8⟩ : ∃ j_ : Int, (wrap64 ((t101.length : Int) + 1)) = j_ := ⟨_, rfl⟩
          replace H : (if 0 ≤ (ji8) then (if (ji8 : Int).toNat ≤ 281474976710656 then ((some (List.replicate (ji8 : Int).toNat false : List Bool)).bind fun y105 => (if 0 < (y105.length : Int) then (spec_Like.l0 kj2 a0 t101 (y105.set (0 : Int).toNat true) t101 (t101.length : Int) 0) else (none))) else (none)) else (none)) = some r := by first | (rw [hji8] at H; exact H) | (simp only [hji8] at H ⊢; exact H)
          (try rw [hji8] at A6)
          have hji8w : (IntKind.i64.wrap ((t101.length : Int) + 1)) = ji8 := (i64_w _).trans hji8
          by_cases c9 : 0 ≤ (ji8)
          · rw [if_pos c9] at H
            have c9b0 := eq_true c9
            have c9b1 : decide (0 ≤ (ji8)) = true := decide_eq_true c9
            clear c9
            by_cases c10 : (ji8 : Int).toNat ≤ 281474976710656
            · rw [if_pos c10] at H
              have c10b0 := eq_true c10
              have c10b1 : decide ((ji8 : Int).toNat ≤ 281474976710656) = true := decide_eq_true c10
              clear c10
              obtain ⟨y105, hy105⟩ : ∃ y_ : List Bool, y_ = (List.replicate (ji8 : Int).toNat false) := ⟨_, rfl⟩
              replace H : (if 0 < (y105.length : Int) then (spec_Like.l0 kj2 a0 t101 (y105.set (0 : Int).toNat true) t101 (t101.length : Int) 0) else (none)) = some r := by first | (rw [hy105]; with_reducible exact H) | (have H2_ := (Option.bind_some _ _).symm.trans H; rw [hy105]; with_reducible exact H2_) | (have H2_ := (Option.bind_some _ _).symm.trans H; with_reducible exact H2_) | with_reducible exact H | (rw [hy105]; exact H) | exact H
              have Ny105 := Aside0.mk hy105
              clear hy105
              by_cases c11 : 0 < (y105.length : Int)
              · rw [if_pos c11] at H
                have c11b0 : decide (0 < (y105.length : Int)) = true := decide_eq_true c11
                have c11b1 : decide (0 < y105.length) = true := decide_eq_true (by omega)
                clear c11
                obtain ⟨y108, hy108⟩ : ∃ y_ : List Bool, y_ = (y105.set (0 : Int).toNat true) := ⟨_, rfl⟩
                replace H : (spec_Like.l0 kj2 a0 t101 y108 t101 (t101.length : Int) 0) = some r := by first | (rw [hy108]; with_reducible exact H) | (have H2_ := (Option.bind_some _ _).symm.trans H; rw [hy108]; with_reducible exact H2_) | (have H2_ := (Option.bind_some _ _).symm.trans H; with_reducible exact H2_) | with_reducible exact H | (rw [hy108]; exact H) | exact H
                have Ny108 := Aside0.mk hy108
                clear hy108
                have H' := Aside0.mk H
                clear H
                go_wp2_with (first | ((with_reducible refine gate_callee (f := 57) rfl ?_); refine goesL_ (some 24) rfl rfl Try.func57 (by kernel_rfl) rfl #[.string a1] rfl (by (try simp only [List.map_toArray, List.map_cons, List.map_nil]); first | done | rfl | (simp only [List.length_drop, List.length_take]; rfl)) ?_; (with_reducible refine (spec_l1Tokens.calls kj2 a1 t101 true _ A6.out).mono ?_); rintro e w13 ⟨v103, rfl, ho0, hb⟩; refine ⟨_, rfl, ?_⟩; have n0_ := Aside0.mk (Kd.R_lower ho0 (below_size (by repeat (first | (with_reducible first | exact HB.out | apply below_alloc | apply pw_below_drewN | apply below_drew1) | exact HB.out)))); have n1_ := Aside0.mk (below_step (by repeat (first | (with_reducible first | exact HB.out | apply below_alloc | apply pw_below_drewN | apply below_drew1) | exact HB.out)) hb); clear HB; have HO104 := n0_; have HB := n1_; clear n0_ n1_; (try clear hb); (try clear hb2); (try clear hk); (try clear hi); (try clear ho0); obtain ⟨Ao14, co14, eo14⟩ := Kd.R_slice HO104.out; subst eo14) | ((with_reducible refine gate_dst (N := 32) rfl ?_); (try (refine gate_guard (by rfl) ?_; dsimp only)); refine Kd.R_make Kd.bool _ 4 rfl (N := 32) rfl 87 _ _ rfl ji8 rfl rfl Try.underlying87 (.bool false) 1 info4 rfl (by decide) (by omega) false (ok := fun _ => True) (okp := fun _ => True) rfl (fun _ hk => hk) trivial (of_decide_eq_true (by first | (with_reducible assumption) | assumption)) (Nat.le_trans (Nat.mul_le_mul_right _ (of_decide_eq_true (by first | (with_reducible assumption) | assumption) : ji8.toNat ≤ 281474976710656)) (by omega)) (Below.refl _ _) (Nat.le_refl _) ?_; intro v106 w15 ho16 hb hg_ hnew_; clear hg_ hnew_; (first | rw [← Ny105.out] at ho16 | (simp only [Int.reduceToNat] at ho16; rw [← Ny105.out] at ho16)); have n0_ := Aside0.mk (Kd.R_below (by (with_reducible repeat (first | apply Kd.R_alloc | apply Kd.R_drewN | apply Kd.R_drew)); exact HO104.out) hb); have n1_ := Aside0.mk (Kd.R_lower ho16 (below_size (by repeat (first | (with_reducible first | exact HB.out | apply below_alloc | apply pw_below_drewN | apply below_drew1) | exact HB.out)))); have n2_ := Aside0.mk (below_step (by repeat (first | (with_reducible first | exact HB.out | apply below_alloc | apply pw_below_drewN | apply below_drew1) | exact HB.out)) hb); clear HO104; clear HB; have HO104 := n0_; have HO107 := n1_; have HB := n2_; clear n0_ n1_ n2_; clear hb ho16; have p12 : 0 ≤ (0 : Int) := (by omega); have q12 : (0 : Int) < ((y105.length : Int) : Int) := of_decide_eq_true (by first | (with_reducible assumption) | assumption); have qi12 : (0 < y105.length) = True := eq_true (by omega); obtain ⟨go12, co12, eo12, gb12, gl12, cl12, HG12⟩ := Kd.R_form HO107.out (by omega); (first | cases eo12 | (injection eo12 with ea_ en_ ec_; (first | subst ea_ | (injection ea_ with ea_; subst ea_)); subst ec_; clear en_)); have GB12 := Aside0.mk gb12; have GG12 := Aside0.mk HG12; clear gb12 gl12 HG12; obtain ⟨hx12_0, hf12_0⟩ := Kd.R_celln false HO107.out (0 : Int) p12 q12; (try rw [show ((0 : Int)).toNat = 0 from rfl] at hx12_0); (try simp only [Nat.reduceMul, Nat.zero_mul, Nat.zero_add, Nat.reduceAdd] at hx12_0); (try rw [show ((0 : Int)).toNat = 0 from rfl] at hf12_0); (try simp only [Nat.reduceMul, Nat.zero_mul, Nat.zero_add, Nat.reduceAdd] at hf12_0); replace p12 := eq_true p12; replace q12 := eq_true q12; obtain ⟨hy17_, hz17_⟩ := Kd.R_celln false HO107.out (0 : Int) (by omega) (of_decide_eq_true (by first | (with_reducible assumption) | assumption)); (try simp only [Int.reduceToNat, Int.toNat_zero, Int.toNat_ofNat, Nat.reduceMul, Nat.zero_mul, Nat.zero_add] at hy17_ hz17_); (try rw [show ((0 : Int)).toNat = 0 from rfl] at hy17_); (try rw [show ((0 : Int)).toNat = 0 from rfl] at hz17_); have HP17 := Kd.R_putg HO107.out (0 : Int) true) | ((with_reducible refine gate_store (t := 4) (p := 34) rfl ?_); refine store_event (t := 4) (p := 34) (v := ?vo_w18) (w1 := (w15.setCell ⟨go12, (0 : Int).toNat, none⟩ (.bool true))) ?hg ?ho ?hn ?hr ?_; (case ho => rfl); (case hg => rfl); (case hn => rfl); (case hr => first | (go_simp; done) | (go_simp; rfl)); intro w18 hw; have hg : w15.grownBy w18 (some go12) := (by rw [hw]; exact HP17.2); have hp_ : Kd.R Kd.bool 4 w18 w.heap.size (fun _ => True) (.slice (some ⟨go12, 0, none⟩) y105.length co12) y108 := (by rw [hw, Ny108.out]; exact HP17.1); clear HP17; have n0_ := Aside0.mk (Kd.R_over' (v := (.slice (some ⟨go12, 0, none⟩) y105.length co12)) (by (with_reducible repeat (first | apply Kd.R_alloc | apply Kd.R_drewN | apply Kd.R_drew)); exact HO104.out) (Kd.R_typed HO107.out) (by decide) hg); have n1_ := Aside0.mk (hp_); have n2_ := Aside0.mk ((by rw [hw]; exact below_set (HB.out) GB12.out : Below w.heap.size w w18)); clear HO104; clear HO107; clear HB; have HO104 := n0_; have HO107 := n1_; have HB := n2_; clear n0_ n1_ n2_; clear hg hw hp_))
                go_loopg [37] kj2 (fun kq v37 w' => ∃ (x7_2 : List Bool) (x37_2 : Int), v37 = .int .i64 x37_2 ∧ Aside0 (spec_Like.l0 kq a0 t101 x7_2 t101 (t101.length : Int) x37_2 = some r) ∧ Aside0 (kq ≤ kj2) ∧ Aside0 (Kd.R (Kd.int .i64) 3 w' w.heap.size (fun _ => True) (.slice Ao14 t101.length co14) t101) ∧ Aside0 (Kd.R Kd.bool 4 w' w.heap.size (fun _ => True) (.slice (some ⟨go12, 0, none⟩) y105.length co12) x7_2) ∧ Aside0 (Kd.R (Kd.int .i64) 3 w' w.heap.size (fun _ => True) (.slice Ao14 t101.length co14) t101) ∧ Aside0 (Below w.heap.size w w'))
                case atStart => exact ⟨(y108), (0), (by first | rfl | (simp; done) | (simp [*]; done)), H', ⟨Nat.le_refl _⟩, ⟨by (with_reducible repeat (first | apply Kd.R_alloc | apply Kd.R_drewN | apply Kd.R_drew)); exact HO104.out⟩, ⟨by (with_reducible repeat (first | apply Kd.R_alloc | apply Kd.R_drewN | apply Kd.R_drew)); exact HO107.out⟩, ⟨by (with_reducible repeat (first | apply Kd.R_alloc | apply Kd.R_drewN | apply Kd.R_drew)); exact HO104.out⟩, ⟨by repeat (first | (with_reducible first | exact HB.out | apply below_alloc | apply pw_below_drewN | apply below_drew1) | exact HB.out)⟩⟩
                case round =>
                  clear H'
                  try clear c1
                  try clear p1
                  try clear q1
                  try clear hx1
                  try clear qi1
                  try clear p2
                  try clear c4
                  try clear c4b0
                  try clear c4b1
                  try clear c5
                  try clear p6
                  try clear c7
                  try clear c9
                  try clear c9b0
                  try clear c9b1
                  try clear c10
                  try clear c10b0
                  try clear c10b1
                  try clear c11
                  try clear c11b0
                  try clear c11b1
                  try clear p12
                  try clear q12
                  try clear hx12
                  try clear qi12
                  try clear hf12
                  try clear c13
                  try clear hx12_0
                  try clear p12
                  try clear p2
                  try clear q12
                  obtain ⟨x7_2, x37_2, rfl, HA, HK2, HO_5, HO_7, HO_35, HB⟩ := hrel
                  have hl7_2 := (Kd.R_reads' HO_7.out).1
                  rw [hl7_2] at HO_7
                  (try simp only [hl7_2])
                  (try simp only [hl7_2] at HO_5)
                  (try simp only [hl7_2] at HO_35)
                  cases gk with
                  | zero => exact absurd HA.out (by simp [spec_Like.l0])
                  | succ k2 =>
                    have H := HA.out
                    clear HA
                    simp only [spec_Like.l0] at H
                    by_cases c19 : x37_2 < (t101.length : Int)
                    · rw [if_pos c19] at H
                      have c19b0 : decide (x37_2 < (t101.length : Int)) = true := decide_eq_true c19
                      clear c19
                      by_cases c20 : 0 ≤ x37_2
                      · rw [if_pos c20] at H
                        have c20b0 : decide (0 ≤ x37_2) = true := decide_eq_true c20
                        clear c20
                        by_cases c21 : x37_2 < (t101.length : Int)
                        · rw [if_pos c21] at H
                          have c21b0 : decide (x37_2 < (t101.length : Int)) = true := decide_eq_true c21
                          clear c21
                          by_cases c22 : x37_2 < (x7_2.length : Int)
                          · rw [if_pos c22] at H
                            have c22b0 : decide (x37_2 < (x7_2.length : Int)) = true := decide_eq_true c22
                            clear c22
                            obtain ⟨bq23, hbq23⟩ : ∃ b_ : Bool, b_ = (rdOf false x7_2 x37_2) := ⟨_, rfl⟩
                            replace H : (if bq23 = true then (if 0 ≤ (wrap64 (x37_2 + 1)) then (if (wrap64 (x37_2 + 1)) < (x7_2.length : Int) then (spec_Like.l0 k2 a0 t101 (x7_2.set ((wrap64 (x37_2 + 1)) : Int).toNat ((rd t101 x37_2) == 256)) t101 (t101.length : Int) (wrap64 (x37_2 + 1))) else (none)) else (none)) else (if 0 ≤ (wrap64 (x37_2 + 1)) then (if (wrap64 (x37_2 + 1)) < (x7_2.length : Int) then (spec_Like.l0 k2 a0 t101 (x7_2.set ((wrap64 (x37_2 + 1)) : Int).toNat false) t101 (t101.length : Int) (wrap64 (x37_2 + 1))) else (none)) else (none))) = some r := by rw [← hbq23] at H; exact H
                            have Nbq23 := Aside0.mk hbq23
                            clear hbq23
                            by_cases c24 : bq23 = true
                            · subst c24
                              have H1 : (if 0 ≤ (wrap64 (x37_2 + 1)) then (if (wrap64 (x37_2 + 1)) < (x7_2.length : Int) then (spec_Like.l0 k2 a0 t101 (x7_2.set ((wrap64 (x37_2 + 1)) : Int).toNat ((rd t101 x37_2) == 256)) t101 (t101.length : Int) (wrap64 (x37_2 + 1))) else (none)) else (none)) = some r := by rw [if_pos rfl] at H; exact H
                              clear H
                              have H := H1
                              clear H1
                              obtain ⟨ji25, hji25⟩ : ∃ j_ : Int, (wrap64 (x37_2 + 1)) = j_ := ⟨_, rfl⟩
                              replace H : (if 0 ≤ (ji25) then (if (ji25) < (x7_2.length : Int) then (spec_Like.l0 k2 a0 t101 (x7_2.set ((ji25) : Int).toNat ((rd t101 x37_2) == 256)) t101 (t101.length : Int) ji25) else (none)) else (none)) = some r := by first | (rw [hji25] at H; exact H) | (simp only [hji25] at H ⊢; exact H)
                              have hji25w : (IntKind.i64.wrap (x37_2 + 1)) = ji25 := (i64_w _).trans hji25
                              by_cases c26 : 0 ≤ (ji25)
                              · rw [if_pos c26] at H
                                have c26b0 : decide (0 ≤ (ji25)) = true := decide_eq_true c26
                                clear c26
                                by_cases c27 : (ji25) < (x7_2.length : Int)
                                · rw [if_pos c27] at H
                                  have c27b0 : decide ((ji25) < (x7_2.length : Int)) = true := decide_eq_true c27
                                  clear c27
                                  obtain ⟨y111, hy111⟩ : ∃ y_ : List Bool, y_ = (x7_2.set ((ji25) : Int).toNat ((rd t101 x37_2) == 256)) := ⟨_, rfl⟩
                                  replace H : (spec_Like.l0 k2 a0 t101 y111 t101 (t101.length : Int) ji25) = some r := by first | (rw [hy111]; with_reducible exact H) | (have H2_ := (Option.bind_some _ _).symm.trans H; rw [hy111]; with_reducible exact H2_) | (have H2_ := (Option.bind_some _ _).symm.trans H; with_reducible exact H2_) | with_reducible exact H | (rw [hy111]; exact H) | exact H
                                  have Ny111 := Aside0.mk hy111
                                  clear hy111
                                  have H' := Aside0.mk H
                                  clear H
                                  have p109 : 0 ≤ (x37_2 : Int) := of_decide_eq_true (by first | (with_reducible assumption) | assumption)
                                  have q109 : x37_2 < (t101.length : Int) := of_decide_eq_true (by first | (with_reducible assumption) | assumption)
                                  obtain ⟨ad109, e109, hx109_0⟩ := Kd.at_int (Kd.R_reads' HO_35.out).2.2 x37_2 p109 q109
                                  cases e109
                                  replace p109 := eq_true p109
                                  replace q109 := eq_true q109
                                  have p110 : 0 ≤ (x37_2 : Int) := of_decide_eq_true (by first | (with_reducible assumption) | assumption)
                                  have q110 : x37_2 < (x7_2.length : Int) := of_decide_eq_true (by first | (with_reducible assumption) | assumption)
                                  obtain ⟨ad110, e110, hx110_0⟩ := Kd.at_bool (Kd.R_reads' HO_7.out).2.2 x37_2 p110 q110
                                  (try rw [← Nbq23.out] at hx110_0)
                                  obtain rfl : (⟨go12, 0, none⟩ : Addr) = ad110 := (by injection e110)
                                  (first | simp only [add_plain] at hx110_0 | simp only [add_at] at hx110_0 | simp only [Addr.add, Nat.zero_add] at hx110_0 | skip)
                                  replace p110 := eq_true p110
                                  replace q110 := eq_true q110
                                  have p28 : 0 ≤ ((ji25) : Int) := of_decide_eq_true (by first | (with_reducible assumption) | assumption)
                                  have q28 : ((ji25) : Int) < ((x7_2.length : Int) : Int) := of_decide_eq_true (by first | (with_reducible assumption) | assumption)
                                  obtain ⟨hx28_0, hf28_0⟩ := Kd.R_celln false HO_7.out ((ji25) : Int) p28 q28
                                  replace p28 := eq_true p28
                                  replace q28 := eq_true q28
                                  have HP29 := Kd.R_putg HO_7.out ((ji25) : Int) ((rd t101 x37_2) == 256)
                                  go_wp2_with (first | ((with_reducible refine gate_store (t := 4) (p := 53) rfl ?_); refine store_event (t := 4) (p := 53) (v := ?vo_w30) (w1 := (wr.setCell ⟨go12, ((ji25) : Int).toNat, none⟩ (.bool ((rd t101 x37_2) == 256)))) ?hg ?ho ?hn ?hr ?_; (case ho => rfl); (case hg => rfl); (case hn => rfl); (case hr => first | (go_simp; done) | (go_simp; rfl)); intro w30 hw; have hg : wr.grownBy w30 (some go12) := (by rw [hw]; exact HP29.2); have hp_ : Kd.R Kd.bool 4 w30 w.heap.size (fun _ => True) (.slice (some ⟨go12, 0, none⟩) x7_2.length co12) y111 := (by rw [hw, Ny111.out]; exact HP29.1); clear HP29; have n0_ := Aside0.mk (Kd.R_over' (v := (.slice (some ⟨go12, 0, none⟩) x7_2.length co12)) (by (with_reducible repeat (first | apply Kd.R_alloc | apply Kd.R_drewN | apply Kd.R_drew)); exact HO_5.out) (Kd.R_typed HO_7.out) (by decide) hg); have n1_ := Aside0.mk (hp_); have n2_ := Aside0.mk (Kd.R_over' (v := (.slice (some ⟨go12, 0, none⟩) x7_2.length co12)) (by (with_reducible repeat (first | apply Kd.R_alloc | apply Kd.R_drewN | apply Kd.R_drew)); exact HO_35.out) (Kd.R_typed HO_7.out) (by decide) hg); have n3_ := Aside0.mk ((by rw [hw]; exact below_set (HB.out) GB12.out : Below w.heap.size w w30)); clear HO_5; clear HO_7; clear HO_35; clear HB; have HO_5 := n0_; have HO_7 := n1_; have HO_35 := n2_; have HB := n3_; clear n0_ n1_ n2_ n3_; clear hg hw hp_))
                                  (try simp only [← hl7_2])
                                  go_roundg k2
                                  case measure => have := HJ2.out; have := HK2.out; omega
                                  case rel => exact ⟨(y111), (ji25), (by first | rfl | (simp; done) | (simp only [← hji25] <;> (first | rfl | simp)) | (simp [*]; done)), H', ⟨by have := HJ2.out; have := HK2.out; omega⟩, ⟨by (try simp only [hl7_2]); (with_reducible repeat (first | apply Kd.R_alloc | apply Kd.R_drewN | apply Kd.R_drew)); exact HO_5.out⟩, ⟨by (try simp only [hl7_2]); (with_reducible repeat (first | apply Kd.R_alloc | apply Kd.R_drewN | apply Kd.R_drew)); exact HO_7.out⟩, ⟨by (try simp only [hl7_2]); (with_reducible repeat (first | apply Kd.R_alloc | apply Kd.R_drewN | apply Kd.R_drew)); exact HO_35.out⟩, ⟨by repeat (first | (with_reducible first | exact HB.out | apply below_alloc | apply pw_below_drewN | apply below_drew1) | exact HB.out)⟩⟩
                                · rw [if_neg c27] at H
                                  exact absurd H (by simp)
                              · rw [if_neg c26] at H
                                exact absurd H (by simp)
                            · replace c24 := Bool.eq_false_iff.mpr c24
                              subst c24
                              have H1 : (if 0 ≤ (wrap64 (x37_2 + 1)) then (if (wrap64 (x37_2 + 1)) < (x7_2.length : Int) then (spec_Like.l0 k2 a0 t101 (x7_2.set ((wrap64 (x37_2 + 1)) : Int).toNat false) t101 (t101.length : Int) (wrap64 (x37_2 + 1))) else (none)) else (none)) = some r := by rw [if_neg (show ¬ (false = true) by decide)] at H; exact H
                              clear H
                              have H := H1
                              clear H1
                              obtain ⟨ji31, hji31⟩ : ∃ j_ : Int, (wrap64 (x37_2 + 1)) = j_ := ⟨_, rfl⟩
                              replace H : (if 0 ≤ (ji31) then (if (ji31) < (x7_2.length : Int) then (spec_Like.l0 k2 a0 t101 (x7_2.set ((ji31) : Int).toNat false) t101 (t101.length : Int) ji31) else (none)) else (none)) = some r := by first | (rw [hji31] at H; exact H) | (simp only [hji31] at H ⊢; exact H)
                              have hji31w : (IntKind.i64.wrap (x37_2 + 1)) = ji31 := (i64_w _).trans hji31
                              by_cases c32 : 0 ≤ (ji31)
                              · rw [if_pos c32] at H
                                have c32b0 : decide (0 ≤ (ji31)) = true := decide_eq_true c32
                                clear c32
                                by_cases c33 : (ji31) < (x7_2.length : Int)
                                · rw [if_pos c33] at H
                                  have c33b0 : decide ((ji31) < (x7_2.length : Int)) = true := decide_eq_true c33
                                  clear c33
                                  obtain ⟨y112, hy112⟩ : ∃ y_ : List Bool, y_ = (x7_2.set ((ji31) : Int).toNat false) := ⟨_, rfl⟩
                                  replace H : (spec_Like.l0 k2 a0 t101 y112 t101 (t101.length : Int) ji31) = some r := by first | (rw [hy112]; with_reducible exact H) | (have H2_ := (Option.bind_some _ _).symm.trans H; rw [hy112]; with_reducible exact H2_) | (have H2_ := (Option.bind_some _ _).symm.trans H; with_reducible exact H2_) | with_reducible exact H | (rw [hy112]; exact H) | exact H
                                  have Ny112 := Aside0.mk hy112
                                  clear hy112
                                  have H' := Aside0.mk H
                                  clear H
                                  have p109 : 0 ≤ (x37_2 : Int) := of_decide_eq_true (by first | (with_reducible assumption) | assumption)
                                  have q109 : x37_2 < (t101.length : Int) := of_decide_eq_true (by first | (with_reducible assumption) | assumption)
                                  obtain ⟨ad109, e109, hx109_0⟩ := Kd.at_int (Kd.R_reads' HO_35.out).2.2 x37_2 p109 q109
                                  cases e109
                                  replace p109 := eq_true p109
                                  replace q109 := eq_true q109
                                  have p110 : 0 ≤ (x37_2 : Int) := of_decide_eq_true (by first | (with_reducible assumption) | assumption)
                                  have q110 : x37_2 < (x7_2.length : Int) := of_decide_eq_true (by first | (with_reducible assumption) | assumption)
                                  obtain ⟨ad110, e110, hx110_0⟩ := Kd.at_bool (Kd.R_reads' HO_7.out).2.2 x37_2 p110 q110
                                  (try rw [← Nbq23.out] at hx110_0)
                                  obtain rfl : (⟨go12, 0, none⟩ : Addr) = ad110 := (by injection e110)
                                  (first | simp only [add_plain] at hx110_0 | simp only [add_at] at hx110_0 | simp only [Addr.add, Nat.zero_add] at hx110_0 | skip)
                                  replace p110 := eq_true p110
                                  replace q110 := eq_true q110
                                  have p34 : 0 ≤ ((ji31) : Int) := of_decide_eq_true (by first | (with_reducible assumption) | assumption)
                                  have q34 : ((ji31) : Int) < ((x7_2.length : Int) : Int) := of_decide_eq_true (by first | (with_reducible assumption) | assumption)
                                  obtain ⟨hx34_0, hf34_0⟩ := Kd.R_celln false HO_7.out ((ji31) : Int) p34 q34
                                  replace p34 := eq_true p34
                                  replace q34 := eq_true q34
                                  have HP35 := Kd.R_putg HO_7.out ((ji31) : Int) false
                                  go_wp2_with (first | ((with_reducible refine gate_store (t := 4) (p := 53) rfl ?_); refine store_event (t := 4) (p := 53) (v := ?vo_w36) (w1 := (wr.setCell ⟨go12, ((ji31) : Int).toNat, none⟩ (.bool false))) ?hg ?ho ?hn ?hr ?_; (case ho => rfl); (case hg => rfl); (case hn => rfl); (case hr => first | (go_simp; done) | (go_simp; rfl)); intro w36 hw; have hg : wr.grownBy w36 (some go12) := (by rw [hw]; exact HP35.2); have hp_ : Kd.R Kd.bool 4 w36 w.heap.size (fun _ => True) (.slice (some ⟨go12, 0, none⟩) x7_2.length co12) y112 := (by rw [hw, Ny112.out]; exact HP35.1); clear HP35; have n0_ := Aside0.mk (Kd.R_over' (v := (.slice (some ⟨go12, 0, none⟩) x7_2.length co12)) (by (with_reducible repeat (first | apply Kd.R_alloc | apply Kd.R_drewN | apply Kd.R_drew)); exact HO_5.out) (Kd.R_typed HO_7.out) (by decide) hg); have n1_ := Aside0.mk (hp_); have n2_ := Aside0.mk (Kd.R_over' (v := (.slice (some ⟨go12, 0, none⟩) x7_2.length co12)) (by (with_reducible repeat (first | apply Kd.R_alloc | apply Kd.R_drewN | apply Kd.R_drew)); exact HO_35.out) (Kd.R_typed HO_7.out) (by decide) hg); have n3_ := Aside0.mk ((by rw [hw]; exact below_set (HB.out) GB12.out : Below w.heap.size w w36)); clear HO_5; clear HO_7; clear HO_35; clear HB; have HO_5 := n0_; have HO_7 := n1_; have HO_35 := n2_; have HB := n3_; clear n0_ n1_ n2_ n3_; clear hg hw hp_))
                                  (try simp only [← hl7_2])
                                  go_roundg k2
                                  case measure => have := HJ2.out; have := HK2.out; omega
                                  case rel => exact ⟨(y112), (ji31), (by first | rfl | (simp; done) | (simp only [← hji31] <;> (first | rfl | simp)) | (simp [*]; done)), H', ⟨by have := HJ2.out; have := HK2.out; omega⟩, ⟨by (try simp only [hl7_2]); (with_reducible repeat (first | apply Kd.R_alloc | apply Kd.R_drewN | apply Kd.R_drew)); exact HO_5.out⟩, ⟨by (try simp only [hl7_2]); (with_reducible repeat (first | apply Kd.R_alloc | apply Kd.R_drewN | apply Kd.R_drew)); exact HO_7.out⟩, ⟨by (try simp only [hl7_2]); (with_reducible repeat (first | apply Kd.R_alloc | apply Kd.R_drewN | apply Kd.R_drew)); exact HO_35.out⟩, ⟨by repeat (first | (with_reducible first | exact HB.out | apply below_alloc | apply pw_below_drewN | apply below_drew1) | exact HB.out)⟩⟩
                                · rw [if_neg c33] at H
                                  exact absurd H (by simp)
                              · rw [if_neg c32] at H
                                exact absurd H (by simp)
                          · rw [if_neg c22] at H
                            exact absurd H (by simp)
                        · rw [if_neg c21] at H
                          exact absurd H (by simp)
                      · rw [if_neg c20] at H
                        exact absurd H (by simp)
                    · rw [if_neg c19] at H
                      have c19b0 : decide (x37_2 < (t101.length : Int)) = false := decide_eq_false c19
                      clear c19
                      have H' := Aside0.mk H
                      clear H
                      go_wp2
                      go_loopg [7, 10] k2 (fun kq v7 v10 w' => ∃ (x7_3 : List Bool) (x10_3 : Int), v10 = .int .i64 x10_3 ∧ Aside0 (spec_Like.l1 kq a0 t101 x7_3 x10_3 = some r) ∧ Aside0 (kq ≤ k2) ∧ Aside0 (Kd.R (Kd.int .i64) 3 w' w.heap.size (fun _ => True) (.slice Ao14 t101.length co14) t101) ∧ Aside0 (Kd.R Kd.bool 4 w' w.heap.size (fun _ => True) v7 x7_3) ∧ Aside0 (Below w.heap.size w w'))
                      case atStart => exact ⟨(x7_2), (0), (by first | rfl | (simp; done) | (simp [*]; done)), H', ⟨Nat.le_refl _⟩, ⟨by (try simp only [hl7_2]); (with_reducible repeat (first | apply Kd.R_alloc | apply Kd.R_drewN | apply Kd.R_drew)); exact HO_5.out⟩, ⟨by (try simp only [hl7_2]); (with_reducible repeat (first | apply Kd.R_alloc | apply Kd.R_drewN | apply Kd.R_drew)); exact HO_7.out⟩, ⟨by repeat (first | (with_reducible first | exact HB.out | apply below_alloc | apply pw_below_drewN | apply below_drew1) | exact HB.out)⟩⟩
                      case round =>
                        clear H'
                        try clear c1
                        try clear p1
                        try clear q1
                        try clear hx1
                        try clear qi1
                        try clear c2
                        try clear p2
                        try clear q2
                        try clear hx2
                        try clear hf2
                        try clear c3
                        try clear p3
                        try clear q3
                        try clear hx3
                        try clear hf3
                        try clear c4
                        try clear c4b0
                        try clear c4b1
                        try clear c5
                        try clear p6
                        try clear c7
                        try clear c9
                        try clear c9b0
                        try clear c9b1
                        try clear c10
                        try clear c10b0
                        try clear c10b1
                        try clear p10
                        try clear q10
                        try clear hx10
                        try clear c11
                        try clear c11b0
                        try clear c11b1
                        try clear p11
                        try clear q11
                        try clear hx11
                        try clear p12
                        try clear q12
                        try clear hx12
                        try clear qi12
                        try clear hf12
                        try clear c13
                        try clear c19
                        try clear c19b0
                        try clear c20
                        try clear c20b0
                        try clear c21
                        try clear c21b0
                        try clear c22
                        try clear c22b0
                        try clear q23
                        try clear c24
                        try clear c26
                        try clear c26b0
                        try clear c27
                        try clear c27b0
                        try clear p28
                        try clear q28
                        try clear hx28
                        try clear hf28
                        try clear c32
                        try clear c32b0
                        try clear c33
                        try clear c33b0
                        try clear p34
                        try clear q34
                        try clear hx34
                        try clear hf34
                        try clear hx109_0
                        try clear hx110_0
                        try clear hx12_0
                        try clear hx28_0
                        try clear hx34_0
                        try clear p1
                        try clear p109
                        try clear p110
                        try clear p12
                        try clear p2
                        try clear p28
                        try clear p34
                        try clear p6
                        try clear q1
                        try clear q109
                        try clear q110
                        try clear q12
                        try clear q28
                        try clear q34
                        obtain ⟨x7_3, x10_3, rfl, HA, HK3, HO_5, HO_7, HB⟩ := hrel
                        cases gk with
                        | zero => exact absurd HA.out (by simp [spec_Like.l1])
                        | succ k3 =>
                          have H := HA.out
                          clear HA
                          simp only [spec_Like.l1] at H
                          by_cases c37 : x10_3 < (a0.size : Int)
                          · rw [if_pos c37] at H
                            have c37b0 : decide (x10_3 < (a0.size : Int)) = true := decide_eq_true c37
                            clear c37
                            replace H : (if 0 ≤ (ji8) then (if (ji8 : Int).toNat ≤ 281474976710656 then (spec_Like.l2 k3 a0 t101 x7_3 x10_3 (List.replicate (ji8 : Int).toNat false) t101 (t101.length : Int) 0) else (none)) else (none)) = some r := by first | (rw [hji8] at H; exact H) | (simp only [hji8] at H ⊢; exact H)
                            by_cases c39 : 0 ≤ (ji8)
                            · rw [if_pos c39] at H
                              have c39b0 := eq_true c39
                              have c39b1 : decide (0 ≤ (ji8)) = true := decide_eq_true c39
                              clear c39
                              by_cases c40 : (ji8 : Int).toNat ≤ 281474976710656
                              · rw [if_pos c40] at H
                                have c40b0 := eq_true c40
                                have c40b1 : decide ((ji8 : Int).toNat ≤ 281474976710656) = true := decide_eq_true c40
                                clear c40
                                obtain ⟨y114, hy114⟩ : ∃ y_ : List Bool, y_ = (List.replicate (ji8 : Int).toNat false) := ⟨_, rfl⟩
                                replace H : (spec_Like.l2 k3 a0 t101 x7_3 x10_3 y114 t101 (t101.length : Int) 0) = some r := by first | (rw [hy114]; with_reducible exact H) | (have H2_ := (Option.bind_some _ _).symm.trans H; rw [hy114]; with_reducible exact H2_) | (have H2_ := (Option.bind_some _ _).symm.trans H; with_reducible exact H2_) | with_reducible exact H | (rw [hy114]; exact H) | exact H
                                have Ny114 := Aside0.mk hy114
                                clear hy114
                                have H' := Aside0.mk H
                                clear H
                                go_wp2_with (first | ((with_reducible refine gate_dst (N := 64) rfl ?_); (try (refine gate_guard (by rfl) ?_; dsimp only)); refine Kd.R_make Kd.bool _ 4 rfl (N := 64) rfl 87 _ _ rfl ji8 rfl rfl Try.underlying87 (.bool false) 1 info4 rfl (by decide) (by omega) false (ok := fun _ => True) (okp := fun _ => True) rfl (fun _ hk => hk) trivial (of_decide_eq_true (by first | (with_reducible assumption) | assumption)) (Nat.le_trans (Nat.mul_le_mul_right _ (of_decide_eq_true (by first | (with_reducible assumption) | assumption) : ji8.toNat ≤ 281474976710656)) (by omega)) (Below.refl _ _) (Nat.le_refl _) ?_; intro v115 w41 ho42 hb hg_ hnew_; clear hg_ hnew_; (first | rw [← Ny114.out] at ho42 | (simp only [Int.reduceToNat] at ho42; rw [← Ny114.out] at ho42)); have n0_ := Aside0.mk (Kd.R_below (by (with_reducible repeat (first | apply Kd.R_alloc | apply Kd.R_drewN | apply Kd.R_drew)); exact HO_5.out) hb); have n1_ := Aside0.mk (Kd.R_elder' (by (with_reducible repeat (first | apply Kd.R_alloc | apply Kd.R_drewN | apply Kd.R_drew)); exact HO_7.out) (Kd.R_base ho42) hb); have n2_ := Aside0.mk (Kd.R_lower (Kd.R_new' ho42 (Kd.R_lt (by (with_reducible repeat (first | apply Kd.R_alloc | apply Kd.R_drewN | apply Kd.R_drew)); exact HO_7.out))) (below_size (by repeat (first | (with_reducible first | exact HB.out | apply below_alloc | apply pw_below_drewN | apply below_drew1) | exact HB.out)))); have n3_ := Aside0.mk (below_step (by repeat (first | (with_reducible first | exact HB.out | apply below_alloc | apply pw_below_drewN | apply below_drew1) | exact HB.out)) hb); clear HO_5; clear HO_7; clear HB; have HO_5 := n0_; have HO_7 := n1_; have HO116 := n2_; have HB := n3_; clear n0_ n1_ n2_ n3_; clear hb ho42))
                                go_loopg [67] k3 (fun kq v67 w' => ∃ (x11_4 : List Bool) (x67_4 : Int), v67 = .int .i64 x67_4 ∧ Aside0 (spec_Like.l2 kq a0 t101 x7_3 x10_3 x11_4 t101 (t101.length : Int) x67_4 = some r) ∧ Aside0 (kq ≤ k3) ∧ Aside0 (Kd.R (Kd.int .i64) 3 w' w.heap.size (fun _ => True) (.slice Ao14 t101.length co14) t101) ∧ Aside0 (Kd.R Kd.bool 4 w' w.heap.size (fun k_ => some k_ ≠ (v115 : Value).ownBlock) u7 x7_3) ∧ Aside0 (Kd.R Kd.bool 4 w' w.heap.size (fun k_ => some k_ ≠ (u7 : Value).ownBlock) v115 x11_4) ∧ Aside0 (Kd.R (Kd.int .i64) 3 w' w.heap.size (fun _ => True) (.slice Ao14 t101.length co14) t101) ∧ Aside0 (Below w.heap.size w w'))
                                case atStart => exact ⟨(y114), (0), (by first | rfl | (simp; done) | (simp [*]; done)), H', ⟨Nat.le_refl _⟩, ⟨by (try simp only [hl7_2]); (with_reducible repeat (first | apply Kd.R_alloc | apply Kd.R_drewN | apply Kd.R_drew)); exact HO_5.out⟩, ⟨by (try simp only [hl7_2]); (with_reducible repeat (first | apply Kd.R_alloc | apply Kd.R_drewN | apply Kd.R_drew)); exact Kd.R_mono HO_7.out (fun _ hk => hk.2)⟩, ⟨by (try simp only [hl7_2]); (with_reducible repeat (first | apply Kd.R_alloc | apply Kd.R_drewN | apply Kd.R_drew)); exact Kd.R_mono HO116.out (fun _ hk => hk.2)⟩, ⟨by (try simp only [hl7_2]); (with_reducible repeat (first | apply Kd.R_alloc | apply Kd.R_drewN | apply Kd.R_drew)); exact HO_5.out⟩, ⟨by repeat (first | (with_reducible first | exact HB.out | apply below_alloc | apply pw_below_drewN | apply below_drew1) | exact HB.out)⟩⟩
                                case round =>
                                  clear H'
                                  try clear c1
                                  try clear p1
                                  try clear q1
                                  try clear hx1
                                  try clear qi1
                                  try clear c2
                                  try clear p2
                                  try clear q2
                                  try clear hx2
                                  try clear hf2
                                  try clear c3
                                  try clear p3
                                  try clear q3
                                  try clear hx3
                                  try clear hf3
                                  try clear c4
                                  try clear c4b0
                                  try clear c4b1
                                  try clear c5
                                  try clear p6
                                  try clear c7
                                  try clear c9
                                  try clear c9b0
                                  try clear c9b1
                                  try clear c10
                                  try clear c10b0
                                  try clear c10b1
                                  try clear p10
                                  try clear q10
                                  try clear hx10
                                  try clear c11
                                  try clear c11b0
                                  try clear c11b1
                                  try clear p11
                                  try clear q11
                                  try clear hx11
                                  try clear p12
                                  try clear q12
                                  try clear hx12
                                  try clear qi12
                                  try clear hf12
                                  try clear c13
                                  try clear c19
                                  try clear c19b0
                                  try clear c20
                                  try clear c20b0
                                  try clear c21
                                  try clear c21b0
                                  try clear c22
                                  try clear c22b0
                                  try clear q23
                                  try clear c24
                                  try clear c26
                                  try clear c26b0
                                  try clear c27
                                  try clear c27b0
                                  try clear p28
                                  try clear q28
                                  try clear hx28
                                  try clear hf28
                                  try clear c32
                                  try clear c32b0
                                  try clear c33
                                  try clear c33b0
                                  try clear p34
                                  try clear q34
                                  try clear hx34
                                  try clear hf34
                                  try clear c37
                                  try clear c37b0
                                  try clear c39
                                  try clear c39b0
                                  try clear c39b1
                                  try clear c40
                                  try clear c40b0
                                  try clear c40b1
                                  try clear hx109_0
                                  try clear hx110_0
                                  try clear hx12_0
                                  try clear hx28_0
                                  try clear hx34_0
                                  try clear p1
                                  try clear p10
                                  try clear p109
                                  try clear p11
                                  try clear p110
                                  try clear p12
                                  try clear p2
                                  try clear p28
                                  try clear p3
                                  try clear p34
                                  try clear p6
                                  try clear q1
                                  try clear q10
                                  try clear q109
                                  try clear q11
                                  try clear q110
                                  try clear q12
                                  try clear q2
                                  try clear q23
                                  try clear q28
                                  try clear q3
                                  try clear q34
                                  obtain ⟨x11_4, x67_4, rfl, HA, HK4, HO_5, HO_7, HO_11, HO_65, HB⟩ := hrel
                                  cases gk with
                                  | zero => exact absurd HA.out (by simp [spec_Like.l2])
                                  | succ k4 =>
                                    have H := HA.out
                                    clear HA
                                    simp only [spec_Like.l2] at H
                                    by_cases c43 : x67_4 < (t101.length : Int)
                                    · rw [if_pos c43] at H
                                      have c43b0 : decide (x67_4 < (t101.length : Int)) = true := decide_eq_true c43
                                      clear c43
                                      by_cases c44 : 0 ≤ x67_4
                                      · rw [if_pos c44] at H
                                        have c44b0 : decide (0 ≤ x67_4) = true := decide_eq_true c44
                                        clear c44
                                        by_cases c45 : x67_4 < (t101.length : Int)
                                        · rw [if_pos c45] at H
                                          have c45b0 : decide (x67_4 < (t101.length : Int)) = true := decide_eq_true c45
                                          clear c45
                                          by_cases c46 : (rd t101 x67_4) = 256
                                          · rw [if_pos c46] at H
                                            have c46b0 : ((rd t101 x67_4) == 256) = true := beq_iff_eq.mpr c46
                                            have c46b1 : ((rd t101 x67_4) != 256) = false := bne_eq_false_iff_eq.mpr c46
                                            clear c46
                                            obtain ⟨ji47, hji47⟩ : ∃ j_ : Int, (wrap64 (x67_4 + 1)) = j_ := ⟨_, rfl⟩
                                            replace H : (if 0 ≤ (ji47) then (if (ji47) < (x7_3.length : Int) then (if rdOf false x7_3 (ji47) = true then (if (ji47) < (x11_4.length : Int) then (spec_Like.l2 k4 a0 t101 x7_3 x10_3 (x11_4.set ((ji47) : Int).toNat true) t101 (t101.length : Int) ji47) else (none)) else (if x67_4 < (x11_4.length : Int) then (if (ji47) < (x11_4.length : Int) then (spec_Like.l2 k4 a0 t101 x7_3 x10_3 (x11_4.set ((ji47) : Int).toNat (rdOf false x11_4 x67_4)) t101 (t101.length : Int) ji47) else (none)) else (none))) else (none)) else (none)) = some r := by first | (rw [hji47] at H; exact H) | (simp only [hji47] at H ⊢; exact H)
                                            have hji47w : (IntKind.i64.wrap (x67_4 + 1)) = ji47 := (i64_w _).trans hji47
                                            by_cases c48 : 0 ≤ (ji47)
                                            · rw [if_pos c48] at H
                                              have c48b0 : decide (0 ≤ (ji47)) = true := decide_eq_true c48
                                              clear c48
                                              by_cases c49 : (ji47) < (x7_3.length : Int)
                                              · rw [if_pos c49] at H
                                                have c49b0 : decide ((ji47) < (x7_3.length : Int)) = true := decide_eq_true c49
                                                clear c49
                                                obtain ⟨bq50, hbq50⟩ : ∃ b_ : Bool, b_ = (rdOf false x7_3 (ji47)) := ⟨_, rfl⟩
                                                replace H : (if bq50 = true then (if (ji47) < (x11_4.length : Int) then (spec_Like.l2 k4 a0 t101 x7_3 x10_3 (x11_4.set ((ji47) : Int).toNat true) t101 (t101.length : Int) ji47) else (none)) else (if x67_4 < (x11_4.length : Int) then (if (ji47) < (x11_4.length : Int) then (spec_Like.l2 k4 a0 t101 x7_3 x10_3 (x11_4.set ((ji47) : Int).toNat (rdOf false x11_4 x67_4)) t101 (t101.length : Int) ji47) else (none)) else (none))) = some r := by rw [← hbq50] at H; exact H
                                                have Nbq50 := Aside0.mk hbq50
                                                clear hbq50
                                                by_cases c51 : bq50 = true
                                                · subst c51
                                                  have H1 : (if (ji47) < (x11_4.length : Int) then (spec_Like.l2 k4 a0 t101 x7_3 x10_3 (x11_4.set ((ji47) : Int).toNat true) t101 (t101.length : Int) ji47) else (none)) = some r := by rw [if_pos rfl] at H; exact H
                                                  clear H
                                                  have H := H1
                                                  clear H1
                                                  by_cases c52 : (ji47) < (x11_4.length : Int)
                                                  · rw [if_pos c52] at H
                                                    have c52b0 : decide ((ji47) < (x11_4.length : Int)) = true := decide_eq_true c52
                                                    clear c52
                                                    obtain ⟨y119, hy119⟩ : ∃ y_ : List Bool, y_ = (x11_4.set ((ji47) : Int).toNat true) := ⟨_, rfl⟩
                                                    replace H : (spec_Like.l2 k4 a0 t101 x7_3 x10_3 y119 t101 (t101.length : Int) ji47) = some r := by first | (rw [hy119]; with_reducible exact H) | (have H2_ := (Option.bind_some _ _).symm.trans H; rw [hy119]; with_reducible exact H2_) | (have H2_ := (Option.bind_some _ _).symm.trans H; with_reducible exact H2_) | with_reducible exact H | (rw [hy119]; exact H) | exact H
                                                    have Ny119 := Aside0.mk hy119
                                                    clear hy119
                                                    have H' := Aside0.mk H
                                                    clear H
                                                    have p117 : 0 ≤ (x67_4 : Int) := of_decide_eq_true (by first | (with_reducible assumption) | assumption)
                                                    have q117 : x67_4 < (t101.length : Int) := of_decide_eq_true (by first | (with_reducible assumption) | assumption)
                                                    obtain ⟨ad117, e117, hx117_0⟩ := Kd.at_int (Kd.R_reads' HO_65.out).2.2 x67_4 p117 q117
                                                    cases e117
                                                    replace p117 := eq_true p117
                                                    replace q117 := eq_true q117
                                                    obtain ⟨Ao54, co54, eo54⟩ := Kd.R_slice HO_7.out
                                                    subst eo54
                                                    have p118 : 0 ≤ ((ji47) : Int) := of_decide_eq_true (by first | (with_reducible assumption) | assumption)
                                                    have q118 : (ji47) < (x7_3.length : Int) := of_decide_eq_true (by first | (with_reducible assumption) | assumption)
                                                    obtain ⟨ad118, e118, hx118_0⟩ := Kd.at_bool (Kd.R_reads' HO_7.out).2.2 (ji47) p118 q118
                                                    (try rw [← Nbq50.out] at hx118_0)
                                                    cases e118
                                                    replace p118 := eq_true p118
                                                    replace q118 := eq_true q118
                                                    have p53 : 0 ≤ ((ji47) : Int) := of_decide_eq_true (by first | (with_reducible assumption) | assumption)
                                                    have q53 : ((ji47) : Int) < ((x11_4.length : Int) : Int) := of_decide_eq_true (by first | (with_reducible assumption) | assumption)
                                                    obtain ⟨go53, co53, eo53, gb53, gl53, cl53, HG53⟩ := Kd.R_form HO_11.out (by omega)
                                                    (first | cases eo53 | (injection eo53 with ea_ en_ ec_; (first | subst ea_ | (injection ea_ with ea_; subst ea_)); subst ec_; clear en_))
                                                    have GB53 := Aside0.mk gb53
                                                    have GG53 := Aside0.mk HG53
                                                    clear gb53 gl53 HG53
                                                    obtain ⟨hx53_0, hf53_0⟩ := Kd.R_celln false HO_11.out ((ji47) : Int) p53 q53
                                                    replace p53 := eq_true p53
                                                    replace q53 := eq_true q53
                                                    have HP55 := Kd.R_putg HO_11.out ((ji47) : Int) true
                                                    go_wp2_with (first | ((with_reducible refine gate_store (t := 4) (p := 88) rfl ?_); refine store_event (t := 4) (p := 88) (v := ?vo_w56) (w1 := (wr.setCell ⟨go53, ((ji47) : Int).toNat, none⟩ (.bool true))) ?hg ?ho ?hn ?hr ?_; (case ho => rfl); (case hg => rfl); (case hn => rfl); (case hr => first | (go_simp; done) | (go_simp; rfl)); intro w56 hw; have hg : wr.grownBy w56 (some go53) := (by rw [hw]; exact HP55.2); have hp_ : Kd.R Kd.bool 4 w56 w.heap.size (fun k_ => some k_ ≠ (.slice (some ad118) x7_3.length co54 : Value).ownBlock) (.slice (some ⟨go53, 0, none⟩) x11_4.length co53) y119 := (by rw [hw, Ny119.out]; exact HP55.1); clear HP55; have n0_ := Aside0.mk (Kd.R_over' (v := (.slice (some ⟨go53, 0, none⟩) x11_4.length co53)) (by (with_reducible repeat (first | apply Kd.R_alloc | apply Kd.R_drewN | apply Kd.R_drew)); exact HO_5.out) (Kd.R_typed HO_11.out) (by decide) hg); have n1_ := Aside0.mk (Kd.R_after (v := (.slice (some ⟨go53, 0, none⟩) x11_4.length co53)) (v1 := (.slice (some ⟨go53, 0, none⟩) x11_4.length co53)) (ok := (fun _ => True)) (by (with_reducible repeat (first | apply Kd.R_alloc | apply Kd.R_drewN | apply Kd.R_drew)); exact Kd.R_mono HO_7.out (fun _ hk => ⟨trivial, hk⟩)) hg (.inl rfl)); have n2_ := Aside0.mk (hp_); have n3_ := Aside0.mk (Kd.R_over' (v := (.slice (some ⟨go53, 0, none⟩) x11_4.length co53)) (by (with_reducible repeat (first | apply Kd.R_alloc | apply Kd.R_drewN | apply Kd.R_drew)); exact HO_65.out) (Kd.R_typed HO_11.out) (by decide) hg); have n4_ := Aside0.mk ((by rw [hw]; exact below_set (HB.out) GB53.out : Below w.heap.size w w56)); clear HO_5; clear HO_7; clear HO_11; clear HO_65; clear HB; have HO_5 := n0_; have HO_7 := n1_; have HO_11 := n2_; have HO_65 := n3_; have HB := n4_; clear n0_ n1_ n2_ n3_ n4_; clear hg hw hp_))
                                                    go_roundg k4
                                                    case measure => have := HJ2.out; have := HK2.out; have := HK3.out; have := HK4.out; omega
                                                    case rel => exact ⟨(y119), (ji47), (by first | rfl | (simp; done) | (simp only [← hji47] <;> (first | rfl | simp)) | (simp [*]; done)), H', ⟨by have := HJ2.out; have := HK2.out; have := HK3.out; have := HK4.out; omega⟩, ⟨by (try simp only [hl7_2]); (with_reducible repeat (first | apply Kd.R_alloc | apply Kd.R_drewN | apply Kd.R_drew)); exact HO_5.out⟩, ⟨by (try simp only [hl7_2]); (with_reducible repeat (first | apply Kd.R_alloc | apply Kd.R_drewN | apply Kd.R_drew)); exact Kd.R_mono HO_7.out (fun _ hk => hk.2)⟩, ⟨by (try simp only [hl7_2]); (with_reducible repeat (first | apply Kd.R_alloc | apply Kd.R_drewN | apply Kd.R_drew)); exact HO_11.out⟩, ⟨by (try simp only [hl7_2]); (with_reducible repeat (first | apply Kd.R_alloc | apply Kd.R_drewN | apply Kd.R_drew)); exact HO_65.out⟩, ⟨by repeat (first | (with_reducible first | exact HB.out | apply below_alloc | apply pw_below_drewN | apply below_drew1) | exact HB.out)⟩⟩
                                                  · rw [if_neg c52] at H
                                                    exact absurd H (by simp)
                                                · replace c51 := Bool.eq_false_iff.mpr c51
                                                  subst c51
                                                  have H1 : (if x67_4 < (x11_4.length : Int) then (if (ji47) < (x11_4.length : Int) then (spec_Like.l2 k4 a0 t101 x7_3 x10_3 (x11_4.set ((ji47) : Int).toNat (rdOf false x11_4 x67_4)) t101 (t101.length : Int) ji47) else (none)) else (none)) = some r := by rw [if_neg (show ¬ (false = true) by decide)] at H; exact H
                                                  clear H
                                                  have H := H1
                                                  clear H1
                                                  by_cases c57 : x67_4 < (x11_4.length : Int)
                                                  · rw [if_pos c57] at H
                                                    have c57b0 : decide (x67_4 < (x11_4.length : Int)) = true := decide_eq_true c57
                                                    clear c57
                                                    by_cases c58 : (ji47) < (x11_4.length : Int)
                                                    · rw [if_pos c58] at H
                                                      have c58b0 : decide ((ji47) < (x11_4.length : Int)) = true := decide_eq_true c58
                                                      clear c58
                                                      obtain ⟨y121, hy121⟩ : ∃ y_ : List Bool, y_ = (x11_4.set ((ji47) : Int).toNat (rdOf false x11_4 x67_4)) := ⟨_, rfl⟩
                                                      replace H : (spec_Like.l2 k4 a0 t101 x7_3 x10_3 y121 t101 (t101.length : Int) ji47) = some r := by first | (rw [hy121]; with_reducible exact H) | (have H2_ := (Option.bind_some _ _).symm.trans H; rw [hy121]; with_reducible exact H2_) | (have H2_ := (Option.bind_some _ _).symm.trans H; with_reducible exact H2_) | with_reducible exact H | (rw [hy121]; exact H) | exact H
                                                      have Ny121 := Aside0.mk hy121
                                                      clear hy121
                                                      have H' := Aside0.mk H
                                                      clear H
                                                      have p117 : 0 ≤ (x67_4 : Int) := of_decide_eq_true (by first | (with_reducible assumption) | assumption)
                                                      have q117 : x67_4 < (t101.length : Int) := of_decide_eq_true (by first | (with_reducible assumption) | assumption)
                                                      obtain ⟨ad117, e117, hx117_0⟩ := Kd.at_int (Kd.R_reads' HO_65.out).2.2 x67_4 p117 q117
                                                      cases e117
                                                      replace p117 := eq_true p117
                                                      replace q117 := eq_true q117
                                                      obtain ⟨Ao60, co60, eo60⟩ := Kd.R_slice HO_7.out
                                                      subst eo60
                                                      have p118 : 0 ≤ ((ji47) : Int) := of_decide_eq_true (by first | (with_reducible assumption) | assumption)
                                                      have q118 : (ji47) < (x7_3.length : Int) := of_decide_eq_true (by first | (with_reducible assumption) | assumption)
                                                      obtain ⟨ad118, e118, hx118_0⟩ := Kd.at_bool (Kd.R_reads' HO_7.out).2.2 (ji47) p118 q118
                                                      (try rw [← Nbq50.out] at hx118_0)
                                                      cases e118
                                                      replace p118 := eq_true p118
                                                      replace q118 := eq_true q118
                                                      obtain ⟨Ao61, co61, eo61⟩ := Kd.R_slice HO_11.out
                                                      subst eo61
                                                      have p120 : 0 ≤ (x67_4 : Int) := of_decide_eq_true (by first | (with_reducible assumption) | assumption)
                                                      have q120 : x67_4 < (x11_4.length : Int) := of_decide_eq_true (by first | (with_reducible assumption) | assumption)
                                                      obtain ⟨ad120, e120, hx120_0⟩ := Kd.at_bool (Kd.R_reads' HO_11.out).2.2 x67_4 p120 q120
                                                      (try rw [← Nbq50.out] at hx120_0)
                                                      cases e120
                                                      replace p120 := eq_true p120
                                                      replace q120 := eq_true q120
                                                      have p59 : 0 ≤ ((ji47) : Int) := of_decide_eq_true (by first | (with_reducible assumption) | assumption)
                                                      have q59 : ((ji47) : Int) < ((x11_4.length : Int) : Int) := of_decide_eq_true (by first | (with_reducible assumption) | assumption)
                                                      obtain ⟨go59, co59, eo59, gb59, gl59, cl59, HG59⟩ := Kd.R_form HO_11.out (by omega)
                                                      (first | cases eo59 | (injection eo59 with ea_ en_ ec_; (first | subst ea_ | (injection ea_ with ea_; subst ea_)); subst ec_; clear en_))
                                                      have GB59 := Aside0.mk gb59
                                                      have GG59 := Aside0.mk HG59
                                                      clear gb59 gl59 HG59
                                                      (first | simp only [add_plain] at hx120_0 | skip)
                                                      obtain ⟨hx59_0, hf59_0⟩ := Kd.R_celln false HO_11.out ((ji47) : Int) p59 q59
                                                      replace p59 := eq_true p59
                                                      replace q59 := eq_true q59
                                                      have HP62 := Kd.R_putg HO_11.out ((ji47) : Int) (rdOf false x11_4 x67_4)
                                                      go_wp2_with (first | ((with_reducible refine gate_store (t := 4) (p := 88) rfl ?_); refine store_event (t := 4) (p := 88) (v := ?vo_w63) (w1 := (wr.setCell ⟨go59, ((ji47) : Int).toNat, none⟩ (.bool (rdOf false x11_4 x67_4)))) ?hg ?ho ?hn ?hr ?_; (case ho => rfl); (case hg => rfl); (case hn => rfl); (case hr => first | (go_simp; done) | (go_simp; rfl)); intro w63 hw; have hg : wr.grownBy w63 (some go59) := (by rw [hw]; exact HP62.2); have hp_ : Kd.R Kd.bool 4 w63 w.heap.size (fun k_ => some k_ ≠ (.slice (some ad118) x7_3.length co60 : Value).ownBlock) (.slice (some ⟨go59, 0, none⟩) x11_4.length co61) y121 := (by rw [hw, Ny121.out]; exact HP62.1); clear HP62; have n0_ := Aside0.mk (Kd.R_over' (v := (.slice (some ⟨go59, 0, none⟩) x11_4.length co61)) (by (with_reducible repeat (first | apply Kd.R_alloc | apply Kd.R_drewN | apply Kd.R_drew)); exact HO_5.out) (Kd.R_typed HO_11.out) (by decide) hg); have n1_ := Aside0.mk (Kd.R_after (v := (.slice (some ⟨go59, 0, none⟩) x11_4.length co61)) (v1 := (.slice (some ⟨go59, 0, none⟩) x11_4.length co61)) (ok := (fun _ => True)) (by (with_reducible repeat (first | apply Kd.R_alloc | apply Kd.R_drewN | apply Kd.R_drew)); exact Kd.R_mono HO_7.out (fun _ hk => ⟨trivial, hk⟩)) hg (.inl rfl)); have n2_ := Aside0.mk (hp_); have n3_ := Aside0.mk (Kd.R_over' (v := (.slice (some ⟨go59, 0, none⟩) x11_4.length co61)) (by (with_reducible repeat (first | apply Kd.R_alloc | apply Kd.R_drewN | apply Kd.R_drew)); exact HO_65.out) (Kd.R_typed HO_11.out) (by decide) hg); have n4_ := Aside0.mk ((by rw [hw]; exact below_set (HB.out) GB59.out : Below w.heap.size w w63)); clear HO_5; clear HO_7; clear HO_11; clear HO_65; clear HB; have HO_5 := n0_; have HO_7 := n1_; have HO_11 := n2_; have HO_65 := n3_; have HB := n4_; clear n0_ n1_ n2_ n3_ n4_; clear hg hw hp_))
                                                      go_roundg k4
                                                      case measure => have := HJ2.out; have := HK2.out; have := HK3.out; have := HK4.out; omega
                                                      case rel => exact ⟨(y121), (ji47), (by first | rfl | (simp; done) | (simp only [← hji47] <;> (first | rfl | simp)) | (simp [*]; done)), H', ⟨by have := HJ2.out; have := HK2.out; have := HK3.out; have := HK4.out; omega⟩, ⟨by (try simp only [hl7_2]); (with_reducible repeat (first | apply Kd.R_alloc | apply Kd.R_drewN | apply Kd.R_drew)); exact HO_5.out⟩, ⟨by (try simp only [hl7_2]); (with_reducible repeat (first | apply Kd.R_alloc | apply Kd.R_drewN | apply Kd.R_drew)); exact Kd.R_mono HO_7.out (fun _ hk => hk.2)⟩, ⟨by (try simp only [hl7_2]); (with_reducible repeat (first | apply Kd.R_alloc | apply Kd.R_drewN | apply Kd.R_drew)); exact HO_11.out⟩, ⟨by (try simp only [hl7_2]); (with_reducible repeat (first | apply Kd.R_alloc | apply Kd.R_drewN | apply Kd.R_drew)); exact HO_65.out⟩, ⟨by repeat (first | (with_reducible first | exact HB.out | apply below_alloc | apply pw_below_drewN | apply below_drew1) | exact HB.out)⟩⟩
                                                    · rw [if_neg c58] at H
                                                      exact absurd H (by simp)
                                                  · rw [if_neg c57] at H
                                                    exact absurd H (by simp)
                                              · rw [if_neg c49] at H
                                                exact absurd H (by simp)
                                            · rw [if_neg c48] at H
                                              exact absurd H (by simp)
                                          · rw [if_neg c46] at H
                                            have c46b0 : ((rd t101 x67_4) == 256) = false := beq_eq_false_iff_ne.mpr c46
                                            have c46b1 : ((rd t101 x67_4) != 256) = true := bne_iff_ne.mpr c46
                                            by_cases c64 : x67_4 < (x7_3.length : Int)
                                            · rw [if_pos c64] at H
                                              have c64b0 : decide (x67_4 < (x7_3.length : Int)) = true := decide_eq_true c64
                                              clear c64
                                              obtain ⟨bq65, hbq65⟩ : ∃ b_ : Bool, b_ = (rdOf false x7_3 x67_4) := ⟨_, rfl⟩
                                              replace H : (if bq65 = true then (if 0 ≤ x10_3 then (if x10_3 < (a0.size : Int) then (if 0 ≤ (wrap64 (x67_4 + 1)) then (if (wrap64 (x67_4 + 1)) < (x11_4.length : Int) then (spec_Like.l2 k4 a0 t101 x7_3 x10_3 (x11_4.set ((wrap64 (x67_4 + 1)) : Int).toNat ((rd t101 x67_4) == (wrap64 (bt a0 x10_3)))) t101 (t101.length : Int) (wrap64 (x67_4 + 1))) else (none)) else (none)) else (none)) else (none)) else (if 0 ≤ (wrap64 (x67_4 + 1)) then (if (wrap64 (x67_4 + 1)) < (x11_4.length : Int) then (spec_Like.l2 k4 a0 t101 x7_3 x10_3 (x11_4.set ((wrap64 (x67_4 + 1)) : Int).toNat false) t101 (t101.length : Int) (wrap64 (x67_4 + 1))) else (none)) else (none))) = some r := by rw [← hbq65] at H; exact H
                                              have Nbq65 := Aside0.mk hbq65
                                              clear hbq65
                                              by_cases c66 : bq65 = true
                                              · subst c66
                                                have H1 : (if 0 ≤ x10_3 then (if x10_3 < (a0.size : Int) then (if 0 ≤ (wrap64 (x67_4 + 1)) then (if (wrap64 (x67_4 + 1)) < (x11_4.length : Int) then (spec_Like.l2 k4 a0 t101 x7_3 x10_3 (x11_4.set ((wrap64 (x67_4 + 1)) : Int).toNat ((rd t101 x67_4) == (wrap64 (bt a0 x10_3)))) t101 (t101.length : Int) (wrap64 (x67_4 + 1))) else (none)) else (none)) else (none)) else (none)) = some r := by rw [if_pos rfl] at H; exact H
                                                clear H
                                                have H := H1
                                                clear H1
                                                by_cases c67 : 0 ≤ x10_3
                                                · rw [if_pos c67] at H
                                                  have c67b0 : decide (0 ≤ x10_3) = true := decide_eq_true c67
                                                  clear c67
                                                  by_cases c68 : x10_3 < (a0.size : Int)
                                                  · rw [if_pos c68] at H
                                                    have c68b0 : decide (x10_3 < (a0.size : Int)) = true := decide_eq_true c68
                                                    clear c68
                                                    obtain ⟨ji70, hji70⟩ : ∃ j_ : Int, (wrap64 (x67_4 + 1)) = j_ := ⟨_, rfl⟩
                                                    replace H : (if 0 ≤ (ji70) then (if (ji70) < (x11_4.length : Int) then (spec_Like.l2 k4 a0 t101 x7_3 x10_3 (x11_4.set ((ji70) : Int).toNat ((rd t101 x67_4) == (wrap64 (bt a0 x10_3)))) t101 (t101.length : Int) ji70) else (none)) else (none)) = some r := by first | (rw [hji70] at H; exact H) | (simp only [hji70] at H ⊢; exact H)
                                                    have hji70w : (IntKind.i64.wrap (x67_4 + 1)) = ji70 := (i64_w _).trans hji70
                                                    by_cases c71 : 0 ≤ (ji70)
                                                    · rw [if_pos c71] at H
                                                      have c71b0 : decide (0 ≤ (ji70)) = true := decide_eq_true c71
                                                      clear c71
                                                      by_cases c72 : (ji70) < (x11_4.length : Int)
                                                      · rw [if_pos c72] at H
                                                        have c72b0 : decide ((ji70) < (x11_4.length : Int)) = true := decide_eq_true c72
                                                        clear c72
                                                        obtain ⟨y123, hy123⟩ : ∃ y_ : List Bool, y_ = (x11_4.set ((ji70) : Int).toNat ((rd t101 x67_4) == (wrap64 (bt a0 x10_3)))) := ⟨_, rfl⟩
                                                        replace H : (spec_Like.l2 k4 a0 t101 x7_3 x10_3 y123 t101 (t101.length : Int) ji70) = some r := by first | (rw [hy123]; with_reducible exact H) | (have H2_ := (Option.bind_some _ _).symm.trans H; rw [hy123]; with_reducible exact H2_) | (have H2_ := (Option.bind_some _ _).symm.trans H; with_reducible exact H2_) | with_reducible exact H | (rw [hy123]; exact H) | exact H
                                                        have Ny123 := Aside0.mk hy123
                                                        clear hy123
                                                        have H' := Aside0.mk H
                                                        clear H
                                                        have p117 : 0 ≤ (x67_4 : Int) := of_decide_eq_true (by first | (with_reducible assumption) | assumption)
                                                        have q117 : x67_4 < (t101.length : Int) := of_decide_eq_true (by first | (with_reducible assumption) | assumption)
                                                        obtain ⟨ad117, e117, hx117_0⟩ := Kd.at_int (Kd.R_reads' HO_65.out).2.2 x67_4 p117 q117
                                                        cases e117
                                                        replace p117 := eq_true p117
                                                        replace q117 := eq_true q117
                                                        obtain ⟨Ao74, co74, eo74⟩ := Kd.R_slice HO_7.out
                                                        subst eo74
                                                        have p122 : 0 ≤ (x67_4 : Int) := of_decide_eq_true (by first | (with_reducible assumption) | assumption)
                                                        have q122 : x67_4 < (x7_3.length : Int) := of_decide_eq_true (by first | (with_reducible assumption) | assumption)
                                                        obtain ⟨ad122, e122, hx122_0⟩ := Kd.at_bool (Kd.R_reads' HO_7.out).2.2 x67_4 p122 q122
                                                        (try rw [← Nbq65.out] at hx122_0)
                                                        cases e122
                                                        replace p122 := eq_true p122
                                                        replace q122 := eq_true q122
                                                        have p69 : 0 ≤ (x10_3 : Int) := of_decide_eq_true (by first | (with_reducible assumption) | assumption)
                                                        have q69 : x10_3 < (a0.size : Int) := of_decide_eq_true (by first | (with_reducible assumption) | assumption)
                                                        have hx69 := bt_at a0 x10_3
                                                        replace p69 := eq_true p69
                                                        replace q69 := eq_true q69
                                                        have p73 : 0 ≤ ((ji70) : Int) := of_decide_eq_true (by first | (with_reducible assumption) | assumption)
                                                        have q73 : ((ji70) : Int) < ((x11_4.length : Int) : Int) := of_decide_eq_true (by first | (with_reducible assumption) | assumption)
                                                        obtain ⟨go73, co73, eo73, gb73, gl73, cl73, HG73⟩ := Kd.R_form HO_11.out (by omega)
                                                        (first | cases eo73 | (injection eo73 with ea_ en_ ec_; (first | subst ea_ | (injection ea_ with ea_; subst ea_)); subst ec_; clear en_))
                                                        have GB73 := Aside0.mk gb73
                                                        have GG73 := Aside0.mk HG73
                                                        clear gb73 gl73 HG73
                                                        obtain ⟨hx73_0, hf73_0⟩ := Kd.R_celln false HO_11.out ((ji70) : Int) p73 q73
                                                        replace p73 := eq_true p73
                                                        replace q73 := eq_true q73
                                                        have HP75 := Kd.R_putg HO_11.out ((ji70) : Int) ((rd t101 x67_4) == (wrap64 (bt a0 x10_3)))
                                                        go_wp2_with (first | ((with_reducible refine gate_store (t := 4) (p := 104) rfl ?_); refine store_event (t := 4) (p := 104) (v := ?vo_w76) (w1 := (wr.setCell ⟨go73, ((ji70) : Int).toNat, none⟩ (.bool ((rd t101 x67_4) == (wrap64 (bt a0 x10_3)))))) ?hg ?ho ?hn ?hr ?_; (case ho => rfl); (case hg => rfl); (case hn => rfl); (case hr => first | (go_simp; done) | (go_simp; rfl)); intro w76 hw; have hg : wr.grownBy w76 (some go73) := (by rw [hw]; exact HP75.2); have hp_ : Kd.R Kd.bool 4 w76 w.heap.size (fun k_ => some k_ ≠ (.slice (some ad122) x7_3.length co74 : Value).ownBlock) (.slice (some ⟨go73, 0, none⟩) x11_4.length co73) y123 := (by rw [hw, Ny123.out]; exact HP75.1); clear HP75; have n0_ := Aside0.mk (Kd.R_over' (v := (.slice (some ⟨go73, 0, none⟩) x11_4.length co73)) (by (with_reducible repeat (first | apply Kd.R_alloc | apply Kd.R_drewN | apply Kd.R_drew)); exact HO_5.out) (Kd.R_typed HO_11.out) (by decide) hg); have n1_ := Aside0.mk (Kd.R_after (v := (.slice (some ⟨go73, 0, none⟩) x11_4.length co73)) (v1 := (.slice (some ⟨go73, 0, none⟩) x11_4.length co73)) (ok := (fun _ => True)) (by (with_reducible repeat (first | apply Kd.R_alloc | apply Kd.R_drewN | apply Kd.R_drew)); exact Kd.R_mono HO_7.out (fun _ hk => ⟨trivial, hk⟩)) hg (.inl rfl)); have n2_ := Aside0.mk (hp_); have n3_ := Aside0.mk (Kd.R_over' (v := (.slice (some ⟨go73, 0, none⟩) x11_4.length co73)) (by (with_reducible repeat (first | apply Kd.R_alloc | apply Kd.R_drewN | apply Kd.R_drew)); exact HO_65.out) (Kd.R_typed HO_11.out) (by decide) hg); have n4_ := Aside0.mk ((by rw [hw]; exact below_set (HB.out) GB73.out : Below w.heap.size w w76)); clear HO_5; clear HO_7; clear HO_11; clear HO_65; clear HB; have HO_5 := n0_; have HO_7 := n1_; have HO_11 := n2_; have HO_65 := n3_; have HB := n4_; clear n0_ n1_ n2_ n3_ n4_; clear hg hw hp_))
                                                        go_roundg k4
                                                        case measure => have := HJ2.out; have := HK2.out; have := HK3.out; have := HK4.out; omega
                                                        case rel => exact ⟨(y123), (ji70), (by first | rfl | (simp; done) | (simp only [← hji70] <;> (first | rfl | simp)) | (simp [*]; done)), H', ⟨by have := HJ2.out; have := HK2.out; have := HK3.out; have := HK4.out; omega⟩, ⟨by (try simp only [hl7_2]); (with_reducible repeat (first | apply Kd.R_alloc | apply Kd.R_drewN | apply Kd.R_drew)); exact HO_5.out⟩, ⟨by (try simp only [hl7_2]); (with_reducible repeat (first | apply Kd.R_alloc | apply Kd.R_drewN | apply Kd.R_drew)); exact Kd.R_mono HO_7.out (fun _ hk => hk.2)⟩, ⟨by (try simp only [hl7_2]); (with_reducible repeat (first | apply Kd.R_alloc | apply Kd.R_drewN | apply Kd.R_drew)); exact HO_11.out⟩, ⟨by (try simp only [hl7_2]); (with_reducible repeat (first | apply Kd.R_alloc | apply Kd.R_drewN | apply Kd.R_drew)); exact HO_65.out⟩, ⟨by repeat (first | (with_reducible first | exact HB.out | apply below_alloc | apply pw_below_drewN | apply below_drew1) | exact HB.out)⟩⟩
                                                      · rw [if_neg c72] at H
                                                        exact absurd H (by simp)
                                                    · rw [if_neg c71] at H
                                                      exact absurd H (by simp)
                                                  · rw [if_neg c68] at H
                                                    exact absurd H (by simp)
                                                · rw [if_neg c67] at H
                                                  exact absurd H (by simp)
                                              · replace c66 := Bool.eq_false_iff.mpr c66
                                                subst c66
                                                have H1 : (if 0 ≤ (wrap64 (x67_4 + 1)) then (if (wrap64 (x67_4 + 1)) < (x11_4.length : Int) then (spec_Like.l2 k4 a0 t101 x7_3 x10_3 (x11_4.set ((wrap64 (x67_4 + 1)) : Int).toNat false) t101 (t101.length : Int) (wrap64 (x67_4 + 1))) else (none)) else (none)) = some r := by rw [if_neg (show ¬ (false = true) by decide)] at H; exact H
                                                clear H
                                                have H := H1
                                                clear H1
                                                obtain ⟨ji77, hji77⟩ : ∃ j_ : Int, (wrap64 (x67_4 + 1)) = j_ := ⟨_, rfl⟩
                                                replace H : (if 0 ≤ (ji77) then (if (ji77) < (x11_4.length : Int) then (spec_Like.l2 k4 a0 t101 x7_3 x10_3 (x11_4.set ((ji77) : Int).toNat false) t101 (t101.length : Int) ji77) else (none)) else (none)) = some r := by first | (rw [hji77] at H; exact H) | (simp only [hji77] at H ⊢; exact H)
                                                have hji77w : (IntKind.i64.wrap (x67_4 + 1)) = ji77 := (i64_w _).trans hji77
                                                by_cases c78 : 0 ≤ (ji77)
                                                · rw [if_pos c78] at H
                                                  have c78b0 : decide (0 ≤ (ji77)) = true := decide_eq_true c78
                                                  clear c78
                                                  by_cases c79 : (ji77) < (x11_4.length : Int)
                                                  · rw [if_pos c79] at H
                                                    have c79b0 : decide ((ji77) < (x11_4.length : Int)) = true := decide_eq_true c79
                                                    clear c79
                                                    obtain ⟨y124, hy124⟩ : ∃ y_ : List Bool, y_ = (x11_4.set ((ji77) : Int).toNat false) := ⟨_, rfl⟩
                                                    replace H : (spec_Like.l2 k4 a0 t101 x7_3 x10_3 y124 t101 (t101.length : Int) ji77) = some r := by first | (rw [hy124]; with_reducible exact H) | (have H2_ := (Option.bind_some _ _).symm.trans H; rw [hy124]; with_reducible exact H2_) | (have H2_ := (Option.bind_some _ _).symm.trans H; with_reducible exact H2_) | with_reducible exact H | (rw [hy124]; exact H) | exact H
                                                    have Ny124 := Aside0.mk hy124
                                                    clear hy124
                                                    have H' := Aside0.mk H
                                                    clear H
                                                    have p117 : 0 ≤ (x67_4 : Int) := of_decide_eq_true (by first | (with_reducible assumption) | assumption)
                                                    have q117 : x67_4 < (t101.length : Int) := of_decide_eq_true (by first | (with_reducible assumption) | assumption)
                                                    obtain ⟨ad117, e117, hx117_0⟩ := Kd.at_int (Kd.R_reads' HO_65.out).2.2 x67_4 p117 q117
                                                    cases e117
                                                    replace p117 := eq_true p117
                                                    replace q117 := eq_true q117
                                                    obtain ⟨Ao81, co81, eo81⟩ := Kd.R_slice HO_7.out
                                                    subst eo81
                                                    have p122 : 0 ≤ (x67_4 : Int) := of_decide_eq_true (by first | (with_reducible assumption) | assumption)
                                                    have q122 : x67_4 < (x7_3.length : Int) := of_decide_eq_true (by first | (with_reducible assumption) | assumption)
                                                    obtain ⟨ad122, e122, hx122_0⟩ := Kd.at_bool (Kd.R_reads' HO_7.out).2.2 x67_4 p122 q122
                                                    (try rw [← Nbq65.out] at hx122_0)
                                                    cases e122
                                                    replace p122 := eq_true p122
                                                    replace q122 := eq_true q122
                                                    have p80 : 0 ≤ ((ji77) : Int) := of_decide_eq_true (by first | (with_reducible assumption) | assumption)
                                                    have q80 : ((ji77) : Int) < ((x11_4.length : Int) : Int) := of_decide_eq_true (by first | (with_reducible assumption) | assumption)
                                                    obtain ⟨go80, co80, eo80, gb80, gl80, cl80, HG80⟩ := Kd.R_form HO_11.out (by omega)
                                                    (first | cases eo80 | (injection eo80 with ea_ en_ ec_; (first | subst ea_ | (injection ea_ with ea_; subst ea_)); subst ec_; clear en_))
                                                    have GB80 := Aside0.mk gb80
                                                    have GG80 := Aside0.mk HG80
                                                    clear gb80 gl80 HG80
                                                    obtain ⟨hx80_0, hf80_0⟩ := Kd.R_celln false HO_11.out ((ji77) : Int) p80 q80
                                                    replace p80 := eq_true p80
                                                    replace q80 := eq_true q80
                                                    have HP82 := Kd.R_putg HO_11.out ((ji77) : Int) false
                                                    go_wp2_with (first | ((with_reducible refine gate_store (t := 4) (p := 104) rfl ?_); refine store_event (t := 4) (p := 104) (v := ?vo_w83) (w1 := (wr.setCell ⟨go80, ((ji77) : Int).toNat, none⟩ (.bool false))) ?hg ?ho ?hn ?hr ?_; (case ho => rfl); (case hg => rfl); (case hn => rfl); (case hr => first | (go_simp; done) | (go_simp; rfl)); intro w83 hw; have hg : wr.grownBy w83 (some go80) := (by rw [hw]; exact HP82.2); have hp_ : Kd.R Kd.bool 4 w83 w.heap.size (fun k_ => some k_ ≠ (.slice (some ad122) x7_3.length co81 : Value).ownBlock) (.slice (some ⟨go80, 0, none⟩) x11_4.length co80) y124 := (by rw [hw, Ny124.out]; exact HP82.1); clear HP82; have n0_ := Aside0.mk (Kd.R_over' (v := (.slice (some ⟨go80, 0, none⟩) x11_4.length co80)) (by (with_reducible repeat (first | apply Kd.R_alloc | apply Kd.R_drewN | apply Kd.R_drew)); exact HO_5.out) (Kd.R_typed HO_11.out) (by decide) hg); have n1_ := Aside0.mk (Kd.R_after (v := (.slice (some ⟨go80, 0, none⟩) x11_4.length co80)) (v1 := (.slice (some ⟨go80, 0, none⟩) x11_4.length co80)) (ok := (fun _ => True)) (by (with_reducible repeat (first | apply Kd.R_alloc | apply Kd.R_drewN | apply Kd.R_drew)); exact Kd.R_mono HO_7.out (fun _ hk => ⟨trivial, hk⟩)) hg (.inl rfl)); have n2_ := Aside0.mk (hp_); have n3_ := Aside0.mk (Kd.R_over' (v := (.slice (some ⟨go80, 0, none⟩) x11_4.length co80)) (by (with_reducible repeat (first | apply Kd.R_alloc | apply Kd.R_drewN | apply Kd.R_drew)); exact HO_65.out) (Kd.R_typed HO_11.out) (by decide) hg); have n4_ := Aside0.mk ((by rw [hw]; exact below_set (HB.out) GB80.out : Below w.heap.size w w83)); clear HO_5; clear HO_7; clear HO_11; clear HO_65; clear HB; have HO_5 := n0_; have HO_7 := n1_; have HO_11 := n2_; have HO_65 := n3_; have HB := n4_; clear n0_ n1_ n2_ n3_ n4_; clear hg hw hp_))
                                                    go_roundg k4
                                                    case measure => have := HJ2.out; have := HK2.out; have := HK3.out; have := HK4.out; omega
                                                    case rel => exact ⟨(y124), (ji77), (by first | rfl | (simp; done) | (simp only [← hji77] <;> (first | rfl | simp)) | (simp [*]; done)), H', ⟨by have := HJ2.out; have := HK2.out; have := HK3.out; have := HK4.out; omega⟩, ⟨by (try simp only [hl7_2]); (with_reducible repeat (first | apply Kd.R_alloc | apply Kd.R_drewN | apply Kd.R_drew)); exact HO_5.out⟩, ⟨by (try simp only [hl7_2]); (with_reducible repeat (first | apply Kd.R_alloc | apply Kd.R_drewN | apply Kd.R_drew)); exact Kd.R_mono HO_7.out (fun _ hk => hk.2)⟩, ⟨by (try simp only [hl7_2]); (with_reducible repeat (first | apply Kd.R_alloc | apply Kd.R_drewN | apply Kd.R_drew)); exact HO_11.out⟩, ⟨by (try simp only [hl7_2]); (with_reducible repeat (first | apply Kd.R_alloc | apply Kd.R_drewN | apply Kd.R_drew)); exact HO_65.out⟩, ⟨by repeat (first | (with_reducible first | exact HB.out | apply below_alloc | apply pw_below_drewN | apply below_drew1) | exact HB.out)⟩⟩
                                                  · rw [if_neg c79] at H
                                                    exact absurd H (by simp)
                                                · rw [if_neg c78] at H
                                                  exact absurd H (by simp)
                                            · rw [if_neg c64] at H
                                              exact absurd H (by simp)
                                        · rw [if_neg c45] at H
                                          exact absurd H (by simp)
                                      · rw [if_neg c44] at H
                                        exact absurd H (by simp)
                                    · rw [if_neg c43] at H
                                      have c43b0 : decide (x67_4 < (t101.length : Int)) = false := decide_eq_false c43
                                      clear c43
                                      have H' := Aside0.mk H
                                      clear H
                                      go_wp2
                                      go_roundg k4
                                      case measure => have := HJ2.out; have := HK2.out; have := HK3.out; have := HK4.out; omega
                                      case rel => exact ⟨(x11_4), (wrap64 (x10_3 + 1)), (by first | rfl | (simp; done) | (simp [*]; done)), H', ⟨by have := HJ2.out; have := HK2.out; have := HK3.out; have := HK4.out; omega⟩, ⟨by (try simp only [hl7_2]); (with_reducible repeat (first | apply Kd.R_alloc | apply Kd.R_drewN | apply Kd.R_drew)); exact HO_5.out⟩, ⟨by (try simp only [hl7_2]); (with_reducible repeat (first | apply Kd.R_alloc | apply Kd.R_drewN | apply Kd.R_drew)); exact Kd.R_mono HO_11.out (fun _ hk => trivial)⟩, ⟨by repeat (first | (with_reducible first | exact HB.out | apply below_alloc | apply pw_below_drewN | apply below_drew1) | exact HB.out)⟩⟩
                              · rw [if_neg c40] at H
                                exact absurd H (by simp)
                            · rw [if_neg c39] at H
                              exact absurd H (by simp)
                          · rw [if_neg c37] at H
                            have c37b0 : decide (x10_3 < (a0.size : Int)) = false := decide_eq_false c37
                            clear c37
                            by_cases c84 : 0 ≤ (t101.length : Int)
                            · rw [if_pos c84] at H
                              have c84b0 : decide (0 ≤ (t101.length : Int)) = true := decide_eq_true c84
                              have c84b1 : decide (0 ≤ t101.length) = true := decide_eq_true (by omega)
                              clear c84
                              by_cases c85 : (t101.length : Int) < (x7_3.length : Int)
                              · rw [if_pos c85] at H
                                have c85b0 : decide ((t101.length : Int) < (x7_3.length : Int)) = true := decide_eq_true c85
                                have c85b1 : decide (t101.length < x7_3.length) = true := decide_eq_true (Int.ofNat_lt.mp c85)
                                clear c85
                                obtain rfl := Option.some.inj H
                                obtain ⟨Ao86, co86, eo86⟩ := Kd.R_slice HO_7.out
                                subst eo86
                                have p113 : 0 ≤ ((t101.length : Int) : Int) := of_decide_eq_true (by first | (with_reducible assumption) | assumption)
                                have q113 : (t101.length : Int) < (x7_3.length : Int) := of_decide_eq_true (by first | (with_reducible assumption) | assumption)
                                obtain ⟨ad113, e113, hx113_0⟩ := Kd.at_bool (Kd.R_reads' HO_7.out).2.2 (t101.length : Int) p113 q113
                                cases e113
                                (try simp only [Go.IntWalk.toNatUp] at hx113_0)
                                (try simp only [hl7_2] at p113)
                                (try simp only [hl7_2] at q113)
                                (try simp only [hl7_2] at hx113_0)
                                replace p113 := eq_true p113
                                replace q113 := eq_true q113
                                go_wp2
                                go_ret
                                exact ⟨by first | rfl | (simp [errW_none, errW_some] <;> rfl) | (simp only [← hji8]; first | rfl | (simp [errW_none, errW_some] <;> rfl)) | (simp [*, errW_none, errW_some] <;> rfl), by repeat (first | (with_reducible first | exact HB.out | apply below_alloc | apply pw_below_drewN | apply below_drew1) | exact HB.out)⟩
                              · rw [if_neg c85] at H
                                exact absurd H (by simp)
                            · rw [if_neg c84] at H
                              exact absurd H (by simp)
              · rw [if_neg c11] at H
                exact absurd H (by simp)
            · rw [if_neg c10] at H
              exact absurd H (by simp)
          · rw [if_neg c9] at H
            exact absurd H (by simp)
        · replace c7 := Bool.eq_false_iff.mpr c7
          subst c7
          have H1 : (some false) = some r := by rw [if_neg (show ¬ (false = true) by decide)] at H; exact H
          clear H
          have H := H1
          clear H1
          obtain rfl := Option.some.inj H
          go_wp2_with (first | ((with_reducible refine gate_callee (f := 57) rfl ?_); refine goesL_ (some 24) rfl rfl Try.func57 (by kernel_rfl) rfl #[.string a1] rfl (by (try simp only [List.map_toArray, List.map_cons, List.map_nil]); first | done | rfl | (simp only [List.length_drop, List.length_take]; rfl)) ?_; (with_reducible refine (spec_l1Tokens.calls kj2 a1 t101 false _ A6.out).mono ?_); rintro e w87 ⟨v103, rfl, ho0, hb⟩; refine ⟨_, rfl, ?_⟩; have n0_ := Aside0.mk (Kd.R_lower ho0 (below_size (by repeat (first | (with_reducible first | exact HB.out | apply below_alloc | apply pw_below_drewN | apply below_drew1) | exact HB.out)))); have n1_ := Aside0.mk (below_step (by repeat (first | (with_reducible first | exact HB.out | apply below_alloc | apply pw_below_drewN | apply below_drew1) | exact HB.out)) hb); clear HB; have HO104 := n0_; have HB := n1_; clear n0_ n1_; (try clear hb); (try clear hb2); (try clear hk); (try clear hi); (try clear ho0)))
          go_ret
          exact ⟨by first | rfl | (simp [errW_none, errW_some] <;> rfl) | (simp [*, errW_none, errW_some] <;> rfl), by repeat (first | (with_reducible first | exact HB.out | apply below_alloc | apply pw_below_drewN | apply below_drew1) | exact HB.out)⟩

end Go.Proofs.Ytccbjchlcelkgaa.Pr
