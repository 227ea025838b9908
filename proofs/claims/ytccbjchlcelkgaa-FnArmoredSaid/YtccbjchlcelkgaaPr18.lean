-- Written by mkprint.py (a program of this repo, which drives the print.py of the kit): Lean checks it.
import Derived.Test.YtccbjchlcelkgaaPr0x
import Derived.Test.YtccbjchlcelkgaaHarmor
import Derived.Test.YtccbjchlcelkgaaHindexbyte
namespace Go.Proofs.Ytccbjchlcelkgaa.Pr
open Go.RowKit Go.Proofs.YtccbjchlcelkgaaW.PrintWords Go.Proofs.YtccbjchlcelkgaaW.PrintLast Go.Proofs.YtccbjchlcelkgaaW.PrintMore
attribute [local go_sem] max2_int min2_int max_two min_two max_three min_three max_four min_four   -- for this text's walks alone
set_option linter.unusedVariables false
set_option linter.unusedSimpArgs false

/-! ### impl_Unarmor: function 18 -/
def impl_Unarmor.l0 : Nat → ByteArray → List Int → Int → Int → Int → Int → Option (List Int × Bool)
  | 0, _, _, _, _, _, _ => none
  | k + 1, x0, x4, x5, x6, x13, x14 => if x14 < x13 then (if 0 ≤ x14 then (if x14 < (x0.size : Int) then ((strings_IndexByte.f (⟨#[48, 49, 50, 51, 52, 53, 54, 55, 56, 57, 97, 98, 99, 100, 101, 102, 103, 104, 105, 106, 107, 108, 109, 110, 111, 112, 113, 114, 115, 116, 117, 118]⟩ : ByteArray) (bt x0 x14)).bind fun t102 => (if t102 < 0 then (some (([] : List Int), false)) else (if (wrap64 (x6 + 5)) ≥ 8 then (if 0 ≤ (wrap64 ((wrap64 (x6 + 5)) - 8)) then (if x4.length < 140737488355328 then (impl_Unarmor.l0 k x0 (x4 ++ [(shr .i64 (Go.bits .or .i64 (wrap64 (x5 * 32)) t102) (wrap64 ((wrap64 (x6 + 5)) - 8))) % 256]) (Go.bits .and .i64 (Go.bits .or .i64 (wrap64 (x5 * 32)) t102) (wrap64 ((shl .i64 1 (wrap64 ((wrap64 (x6 + 5)) - 8))) - 1))) (wrap64 ((wrap64 (x6 + 5)) - 8)) x13 (wrap64 (x14 + 1))) else (none)) else (none)) else (if 0 ≤ (wrap64 (x6 + 5)) then (impl_Unarmor.l0 k x0 x4 (Go.bits .and .i64 (Go.bits .or .i64 (wrap64 (x5 * 32)) t102) (wrap64 ((shl .i64 1 (wrap64 (x6 + 5))) - 1))) (wrap64 (x6 + 5)) x13 (wrap64 (x14 + 1))) else (none))))) else (none)) else (none)) else (if (x4.length : Int) > 20000 then (some (([] : List Int), false)) else ((impl_Armor.f x4).bind fun t101 => (if t101.toList = x0.toList then (some (x4, true)) else (some (([] : List Int), false)))))
def impl_Unarmor.f (k : Nat) (a0 : ByteArray) : Option (List Int × Bool) := if (a0.size : Int) > 32008 then (some (([] : List Int), false)) else (impl_Unarmor.l0 k a0 ([] : List Int) 0 0 (a0.size : Int) 0)
theorem impl_Unarmor.mono_l : ∀ k, (∀ y0 y1 y2 y3 y4 y5, LeO (impl_Unarmor.l0 k y0 y1 y2 y3 y4 y5) (impl_Unarmor.l0 (k + 1) y0 y1 y2 y3 y4 y5))
  | 0 => fun _ _ _ _ _ _ r h => by simp [impl_Unarmor.l0] at h
  | k + 1 => by
    have ih0 := impl_Unarmor.mono_l k
    · intro y0 y1 y2 y3 y4 y5
      unfold impl_Unarmor.l0
      repeat' first
      | (with_reducible exact ih0 _ _ _ _ _ _)
      | (with_reducible exact LeO.refl _)
      | (with_reducible exact LeO.none _)
      | (with_reducible refine LeO.ite ?_ ?_)
      | (with_reducible refine LeO.bind ?_ (fun _ => ?_))
      | exact ih0 _ _ _ _ _ _
      | exact LeO.none _
      | refine LeO.ite ?_ ?_
      | refine LeO.bind ?_ (fun _ => ?_)
theorem impl_Unarmor.mono : ∀ a0 k, LeO (impl_Unarmor.f k a0) (impl_Unarmor.f (k + 1) a0) := by
  intro a0 k
  have ih0 := impl_Unarmor.mono_l k
  unfold impl_Unarmor.f
  repeat' first
      | (with_reducible exact ih0 _ _ _ _ _ _)
      | (with_reducible exact LeO.refl _)
      | (with_reducible exact LeO.none _)
      | (with_reducible refine LeO.ite ?_ ?_)
      | (with_reducible refine LeO.bind ?_ (fun _ => ?_))
      | exact ih0 _ _ _ _ _ _
      | exact LeO.none _
      | refine LeO.ite ?_ ?_
      | refine LeO.bind ?_ (fun _ => ?_)
set_option maxHeartbeats 8000000 in
set_option maxRecDepth 100000 in
theorem impl_Unarmor.calls (k : Nat) (a0 : ByteArray) (r1 : List Int) (r2 : Bool) (w : World) (h : impl_Unarmor.f k a0 = some (r1, r2)) :
    Calls Try.prog 18 #[.string a0] w fun e w' => ∃ v0_ : Value, e = .returned (.tuple #[v0_, .bool r2]) ∧ Kd.R (Kd.int .u8) 5 w' w.heap.size (fun _ => True) v0_ r1 ∧ Below w.heap.size w w' := by
  have HB := Aside0.mk (Below.refl w.heap.size w)
  have H : (if (a0.size : Int) > 32008 then (some (([] : List Int), false)) else (impl_Unarmor.l0 k a0 ([] : List Int) 0 0 (a0.size : Int) 0)) = some (r1, r2) := h
  clear h
  by_cases c2 : (a0.size : Int) > 32008
  · rw [if_pos c2] at H
    have c2b0 : decide (32008 < (a0.size : Int)) = true := decide_eq_true c2
    have c2b1 : decide (32008 < a0.size) = true := decide_eq_true (by omega)
    clear c2
    simp only [Option.some.injEq, Prod.mk.injEq] at H
    obtain ⟨rfl, rfl⟩ := H
    go_enter Try.func18, Try.ntmps18
    go_wp2
    go_ret2
    exact ⟨_, by first | rfl | (simp [errW_none, errW_some] <;> rfl) | (simp [*, errW_none, errW_some] <;> rfl), by first | exact Kd.R_nil _ _ _ _ _ | exact Kd.N_nil _ _ _ _ _ | exact Kd.V_nil _ _ _ _ _ | exact Kd.Q_nil _ _ _ _ _ | exact Kd.S_nil _ _ _ _ _, by repeat (first | (with_reducible first | exact HB.out | apply below_alloc | apply pw_below_drewN | apply below_drew1) | exact HB.out)⟩
  · rw [if_neg c2] at H
    have c2b0 : decide (32008 < (a0.size : Int)) = false := decide_eq_false c2
    have c2b1 : decide (32008 < a0.size) = false := decide_eq_false (by omega)
    clear c2
    have H' := Aside0.mk H
    clear H
    go_enter Try.func18, Try.ntmps18
    go_wp2
    go_loopg [4, 5, 6, 14] k (fun kq v4 v5 v6 v14 w' => ∃ (x4_1 : List Int) (x5_1 : Int) (x6_1 : Int) (x14_1 : Int), v5 = .int .i64 x5_1 ∧ v6 = .int .i64 x6_1 ∧ v14 = .int .i64 x14_1 ∧ Aside0 (impl_Unarmor.l0 kq a0 x4_1 x5_1 x6_1 (a0.size : Int) x14_1 = some (r1, r2)) ∧ Aside0 (kq ≤ k) ∧ Aside0 (Kd.R (Kd.int .u8) 5 w' w.heap.size (fun _ => True) v4 x4_1) ∧ Aside0 (Below w.heap.size w w'))
    case atStart => exact ⟨(([] : List Int)), (0), (0), (0), (by first | rfl | (simp; done) | (simp [*]; done)), (by first | rfl | (simp; done) | (simp [*]; done)), (by first | rfl | (simp; done) | (simp [*]; done)), H', ⟨Nat.le_refl _⟩, ⟨by first | exact Kd.R_nil _ _ _ _ _ | exact Kd.N_nil _ _ _ _ _ | exact Kd.V_nil _ _ _ _ _ | exact Kd.Q_nil _ _ _ _ _ | exact Kd.S_nil _ _ _ _ _⟩, ⟨by repeat (first | (with_reducible first | exact HB.out | apply below_alloc | apply pw_below_drewN | apply below_drew1) | exact HB.out)⟩⟩
    case round =>
      clear H'
      try clear c1
      try clear c2
      try clear c2b0
      try clear c2b1
      try clear p2
      obtain ⟨x4_1, x5_1, x6_1, x14_1, rfl, rfl, rfl, HA, HK1, HO_4, HB⟩ := hrel
      cases gk with
      | zero => exact absurd HA.out (by simp [impl_Unarmor.l0])
      | succ k1 =>
        have H := HA.out
        clear HA
        simp only [impl_Unarmor.l0] at H
        by_cases c3 : x14_1 < (a0.size : Int)
        · rw [if_pos c3] at H
          have c3b0 : decide (x14_1 < (a0.size : Int)) = true := decide_eq_true c3
          clear c3
          by_cases c4 : 0 ≤ x14_1
          · rw [if_pos c4] at H
            have c4b0 : decide (0 ≤ x14_1) = true := decide_eq_true c4
            clear c4
            by_cases c5 : x14_1 < (a0.size : Int)
            · rw [if_pos c5] at H
              have c5b0 : decide (x14_1 < (a0.size : Int)) = true := decide_eq_true c5
              clear c5
              replace H := Option.bind_eq_some_iff.mp H
              obtain ⟨t102, A70, H⟩ := H
              replace H : (if t102 < 0 then (some (([] : List Int), false)) else (if (wrap64 (x6_1 + 5)) ≥ 8 then (if 0 ≤ (wrap64 ((wrap64 (x6_1 + 5)) - 8)) then (if x4_1.length < 140737488355328 then (impl_Unarmor.l0 k1 a0 (x4_1 ++ [(shr .i64 (Go.bits .or .i64 (wrap64 (x5_1 * 32)) t102) (wrap64 ((wrap64 (x6_1 + 5)) - 8))) % 256]) (Go.bits .and .i64 (Go.bits .or .i64 (wrap64 (x5_1 * 32)) t102) (wrap64 ((shl .i64 1 (wrap64 ((wrap64 (x6_1 + 5)) - 8))) - 1))) (wrap64 ((wrap64 (x6_1 + 5)) - 8)) (a0.size : Int) (wrap64 (x14_1 + 1))) else (none)) else (none)) else (if 0 ≤ (wrap64 (x6_1 + 5)) then (impl_Unarmor.l0 k1 a0 x4_1 (Go.bits .and .i64 (Go.bits .or .i64 (wrap64 (x5_1 * 32)) t102) (wrap64 ((shl .i64 1 (wrap64 (x6_1 + 5))) - 1))) (wrap64 (x6_1 + 5)) (a0.size : Int) (wrap64 (x14_1 + 1))) else (none)))) = some (r1, r2) := H
              have A7 := Aside0.mk A70
              clear A70
              by_cases c8 : t102 < 0
              · rw [if_pos c8] at H
                have c8b0 : decide (t102 < 0) = true := decide_eq_true c8
                clear c8
                simp only [Option.some.injEq, Prod.mk.injEq] at H
                obtain ⟨rfl, rfl⟩ := H
                have p6 : 0 ≤ (x14_1 : Int) := of_decide_eq_true (by first | (with_reducible assumption) | assumption)
                have q6 : x14_1 < (a0.size : Int) := of_decide_eq_true (by first | (with_reducible assumption) | assumption)
                have hx6 := bt_at a0 x14_1
                replace p6 := eq_true p6
                replace q6 := eq_true q6
                go_wp2_with (first | ((with_reducible refine gate_callee (f := 63) rfl ?_); refine goesL_ (some 20) rfl rfl Try.func63 (by kernel_rfl) rfl #[.string (⟨#[48, 49, 50, 51, 52, 53, 54, 55, 56, 57, 97, 98, 99, 100, 101, 102, 103, 104, 105, 106, 107, 108, 109, 110, 111, 112, 113, 114, 115, 116, 117, 118]⟩ : ByteArray), .int .u8 (bt a0 x14_1)] rfl (by (try simp only [List.map_toArray, List.map_cons, List.map_nil]); first | done | rfl | (simp only [List.length_drop, List.length_take]; rfl)) ?_; (with_reducible refine (strings_IndexByte.calls (⟨#[48, 49, 50, 51, 52, 53, 54, 55, 56, 57, 97, 98, 99, 100, 101, 102, 103, 104, 105, 106, 107, 108, 109, 110, 111, 112, 113, 114, 115, 116, 117, 118]⟩ : ByteArray) (bt a0 x14_1) t102 _ A7.out).mono ?_); rintro e w' ⟨rfl, ⟨nd, rfl⟩⟩; refine ⟨_, rfl, ?_⟩))
                go_ret2
                exact ⟨_, by first | rfl | (simp [errW_none, errW_some] <;> rfl) | (simp [*, errW_none, errW_some] <;> rfl), by first | exact Kd.R_nil _ _ _ _ _ | exact Kd.N_nil _ _ _ _ _ | exact Kd.V_nil _ _ _ _ _ | exact Kd.Q_nil _ _ _ _ _ | exact Kd.S_nil _ _ _ _ _, by repeat (first | (with_reducible first | exact HB.out | apply below_alloc | apply pw_below_drewN | apply below_drew1) | exact HB.out)⟩
              · rw [if_neg c8] at H
                have c8b0 : decide (t102 < 0) = false := decide_eq_false c8
                clear c8
                by_cases c9 : (wrap64 (x6_1 + 5)) ≥ 8
                · rw [if_pos c9] at H
                  have c9b0 : decide (8 ≤ (wrap64 (x6_1 + 5))) = true := decide_eq_true c9
                  clear c9
                  obtain ⟨ji10, hji10⟩ : ∃ j_ : Int, (wrap64 ((wrap64 (x6_1 + 5)) - 8)) = j_ := ⟨_, rfl⟩
                  replace H : (if 0 ≤ (ji10) then (if x4_1.length < 140737488355328 then (impl_Unarmor.l0 k1 a0 (x4_1 ++ [(shr .i64 (Go.bits .or .i64 (wrap64 (x5_1 * 32)) t102) (ji10)) % 256]) (Go.bits .and .i64 (Go.bits .or .i64 (wrap64 (x5_1 * 32)) t102) (wrap64 ((shl .i64 1 (ji10)) - 1))) ji10 (a0.size : Int) (wrap64 (x14_1 + 1))) else (none)) else (none)) = some (r1, r2) := by first | (rw [hji10] at H; exact H) | (simp only [hji10] at H ⊢; exact H)
                  (try rw [hji10] at A7)
                  have hji10w : (IntKind.i64.wrap ((wrap64 (x6_1 + 5)) - 8)) = ji10 := (i64_w _).trans hji10
                  by_cases c11 : 0 ≤ (ji10)
                  · rw [if_pos c11] at H
                    have c11b0 := eq_true c11
                    have c11b1 : decide (0 ≤ (ji10)) = true := decide_eq_true c11
                    clear c11
                    obtain ⟨ji12, hji12⟩ : ∃ j_ : Int, (shr .i64 (Go.bits .or .i64 (wrap64 (x5_1 * 32)) t102) (ji10)) = j_ := ⟨_, rfl⟩
                    replace H : (if x4_1.length < 140737488355328 then (impl_Unarmor.l0 k1 a0 (x4_1 ++ [(ji12) % 256]) (Go.bits .and .i64 (Go.bits .or .i64 (wrap64 (x5_1 * 32)) t102) (wrap64 ((shl .i64 1 (ji10)) - 1))) ji10 (a0.size : Int) (wrap64 (x14_1 + 1))) else (none)) = some (r1, r2) := by first | (rw [hji12] at H; exact H) | (simp only [hji12] at H ⊢; exact H)
                    (try rw [hji12] at A7)
                    have hji12_ : ((Go.bits .or .i64 (wrap64 (x5_1 * 32)) t102) / 2 ^ min (ji10).toNat 64) = ji12 := hji12
                    have hji12z : (ji10) ≤ 64 → ((Go.bits .or .i64 (wrap64 (x5_1 * 32)) t102) / 2 ^ (ji10).toNat) = ji12 := shr_small hji12
                    by_cases c13 : x4_1.length < 140737488355328
                    · rw [if_pos c13] at H
                      have LMc13 := Aside0.mk c13
                      clear c13
                      obtain ⟨y103, hy103⟩ : ∃ y_ : List Int, y_ = (x4_1 ++ [(ji12) % 256]) := ⟨_, rfl⟩
                      replace H : (impl_Unarmor.l0 k1 a0 y103 (Go.bits .and .i64 (Go.bits .or .i64 (wrap64 (x5_1 * 32)) t102) (wrap64 ((shl .i64 1 (ji10)) - 1))) ji10 (a0.size : Int) (wrap64 (x14_1 + 1))) = some (r1, r2) := by first | (rw [hy103]; with_reducible exact H) | (have H2_ := (Option.bind_some _ _).symm.trans H; rw [hy103]; with_reducible exact H2_) | (have H2_ := (Option.bind_some _ _).symm.trans H; with_reducible exact H2_) | with_reducible exact H | (rw [hy103]; exact H) | exact H
                      have Ny103 := Aside0.mk hy103
                      clear hy103
                      have c14b0 := eq_true (of_decide_eq_true (by first | (with_reducible assumption) | assumption) : 0 ≤ (ji10))
                      obtain ⟨ji15, hji15⟩ : ∃ j_ : Int, (shl .i64 1 (ji10)) = j_ := ⟨_, rfl⟩
                      replace H : (impl_Unarmor.l0 k1 a0 y103 (Go.bits .and .i64 (Go.bits .or .i64 (wrap64 (x5_1 * 32)) t102) (wrap64 ((ji15) - 1))) ji10 (a0.size : Int) (wrap64 (x14_1 + 1))) = some (r1, r2) := by first | (rw [hji15] at H; exact H) | (simp only [hji15] at H ⊢; exact H)
                      (try rw [hji15] at A7)
                      have hji15_ : (IntKind.i64.wrap (1 * 2 ^ min (ji10).toNat 64)) = ji15 := hji15
                      have hji15z : (ji10) ≤ 64 → (IntKind.i64.wrap (1 * 2 ^ (ji10).toNat)) = ji15 := shl_small hji15
                      have hji15u : (IntKind.i64.wrap (2 ^ min (ji10).toNat 64)) = ji15 := by have h_ := hji15_; rw [Int.one_mul] at h_; exact h_
                      have hji15v : (ji10) ≤ 64 → (IntKind.i64.wrap (2 ^ (ji10).toNat)) = ji15 := fun hle_ => by have h_ := hji15z hle_; rw [Int.one_mul] at h_; exact h_
                      have hji15y : (wrap64 (1 * 2 ^ min (ji10).toNat 64)) = ji15 := (i64_w _).symm.trans hji15_
                      have hji15x : (ji10) ≤ 64 → (wrap64 (1 * 2 ^ (ji10).toNat)) = ji15 := fun h_ => (i64_w _).symm.trans (hji15z h_)
                      have H' := Aside0.mk H
                      clear H
                      have p6 : 0 ≤ (x14_1 : Int) := of_decide_eq_true (by first | (with_reducible assumption) | assumption)
                      have q6 : x14_1 < (a0.size : Int) := of_decide_eq_true (by first | (with_reducible assumption) | assumption)
                      have hx6 := bt_at a0 x14_1
                      replace p6 := eq_true p6
                      replace q6 := eq_true q6
                      go_wp2_with (first | ((with_reducible refine gate_callee (f := 63) rfl ?_); refine goesL_ (some 20) rfl rfl Try.func63 (by kernel_rfl) rfl #[.string (⟨#[48, 49, 50, 51, 52, 53, 54, 55, 56, 57, 97, 98, 99, 100, 101, 102, 103, 104, 105, 106, 107, 108, 109, 110, 111, 112, 113, 114, 115, 116, 117, 118]⟩ : ByteArray), .int .u8 (bt a0 x14_1)] rfl (by (try simp only [List.map_toArray, List.map_cons, List.map_nil]); first | done | rfl | (simp only [List.length_drop, List.length_take]; rfl)) ?_; (with_reducible refine (strings_IndexByte.calls (⟨#[48, 49, 50, 51, 52, 53, 54, 55, 56, 57, 97, 98, 99, 100, 101, 102, 103, 104, 105, 106, 107, 108, 109, 110, 111, 112, 113, 114, 115, 116, 117, 118]⟩ : ByteArray) (bt a0 x14_1) t102 _ A7.out).mono ?_); rintro e w' ⟨rfl, ⟨nd, rfl⟩⟩; refine ⟨_, rfl, ?_⟩) | ((with_reducible refine gate_builtin (b := .append) (xs := #[.tmp 33, .tmp 38]) rfl ?_); at_builtin; refine Kd.R_append (Kd.int .u8) (w0 := w) w.heap.size rfl (.tmp 33) (.tmp 38) 22 5 (.int .u8 0) 1 rfl Try.underlying22 info5 rfl (by decide) (by omega) u4 x4_1 ((ji12) % 256) [.int .u8 ((ji12) % 256)] (fun _ => True) (fun _ => False) rfl rfl ?aP (fun _ hk => hk.elim) ?aF ?aO ?aB ?aS ?aL ?_; (case aP => exact rfl); (case aB => exact (by repeat (first | (with_reducible first | exact HB.out | apply below_alloc | apply pw_below_drewN | apply below_drew1) | exact HB.out))); (case aF => exact (fun _ _ => trivial)); (case aO => exact (by (with_reducible repeat (first | apply Kd.R_alloc | apply Kd.R_drewN | apply Kd.R_drew)); exact HO_4.out)); (case aS => exact (below_size (by repeat (first | (with_reducible first | exact HB.out | apply below_alloc | apply pw_below_drewN | apply below_drew1) | exact HB.out)))); (case aL => have := LMc13.out; omega); intro v104 w16 ho hb hg hat; rw [← Ny103.out] at ho; have n0_ := Aside0.mk (hb); have n1_ := Aside0.mk (ho); clear HB; clear HO_4; have HB := n0_; have HO105 := n1_; clear n0_ n1_; clear ho hb hg hat))
                      go_roundg k1
                      case measure => have := HK1.out; omega
                      case rel => exact ⟨(y103), (Go.bits .and .i64 (Go.bits .or .i64 (wrap64 (x5_1 * 32)) t102) (wrap64 ((ji15) - 1))), (ji10), (wrap64 (x14_1 + 1)), (by first | rfl | (simp; done) | (simp only [← hji15] <;> (first | rfl | simp)) | (simp [*]; done)), (by first | rfl | (simp; done) | (simp only [← hji10] <;> (first | rfl | simp)) | (simp [*]; done)), (by first | rfl | (simp; done) | (simp [*]; done)), H', ⟨by have := HK1.out; omega⟩, ⟨by (with_reducible repeat (first | apply Kd.R_alloc | apply Kd.R_drewN | apply Kd.R_drew)); exact HO105.out⟩, ⟨by repeat (first | (with_reducible first | exact HB.out | apply below_alloc | apply pw_below_drewN | apply below_drew1) | exact HB.out)⟩⟩
                    · rw [if_neg c13] at H
                      exact absurd H (by simp)
                  · rw [if_neg c11] at H
                    exact absurd H (by simp)
                · rw [if_neg c9] at H
                  have c9b0 : decide (8 ≤ (wrap64 (x6_1 + 5))) = false := decide_eq_false c9
                  clear c9
                  obtain ⟨ji17, hji17⟩ : ∃ j_ : Int, (wrap64 (x6_1 + 5)) = j_ := ⟨_, rfl⟩
                  replace H : (if 0 ≤ (ji17) then (impl_Unarmor.l0 k1 a0 x4_1 (Go.bits .and .i64 (Go.bits .or .i64 (wrap64 (x5_1 * 32)) t102) (wrap64 ((shl .i64 1 (ji17)) - 1))) ji17 (a0.size : Int) (wrap64 (x14_1 + 1))) else (none)) = some (r1, r2) := by first | (rw [hji17] at H; exact H) | (simp only [hji17] at H ⊢; exact H)
                  (try rw [hji17] at c9b0)
                  (try rw [hji17] at A7)
                  have hji17w : (IntKind.i64.wrap (x6_1 + 5)) = ji17 := (i64_w _).trans hji17
                  by_cases c18 : 0 ≤ (ji17)
                  · rw [if_pos c18] at H
                    have c18b0 := eq_true c18
                    have c18b1 : decide (0 ≤ (ji17)) = true := decide_eq_true c18
                    clear c18
                    obtain ⟨ji19, hji19⟩ : ∃ j_ : Int, (shl .i64 1 (ji17)) = j_ := ⟨_, rfl⟩
                    replace H : (impl_Unarmor.l0 k1 a0 x4_1 (Go.bits .and .i64 (Go.bits .or .i64 (wrap64 (x5_1 * 32)) t102) (wrap64 ((ji19) - 1))) ji17 (a0.size : Int) (wrap64 (x14_1 + 1))) = some (r1, r2) := by first | (rw [hji19] at H; exact H) | (simp only [hji19] at H ⊢; exact H)
                    (try rw [hji19] at A7)
                    have hji19_ : (IntKind.i64.wrap (1 * 2 ^ min (ji17).toNat 64)) = ji19 := hji19
                    have hji19z : (ji17) ≤ 64 → (IntKind.i64.wrap (1 * 2 ^ (ji17).toNat)) = ji19 := shl_small hji19
                    have hji19u : (IntKind.i64.wrap (2 ^ min (ji17).toNat 64)) = ji19 := by have h_ := hji19_; rw [Int.one_mul] at h_; exact h_
                    have hji19v : (ji17) ≤ 64 → (IntKind.i64.wrap (2 ^ (ji17).toNat)) = ji19 := fun hle_ => by have h_ := hji19z hle_; rw [Int.one_mul] at h_; exact h_
                    have hji19y : (wrap64 (1 * 2 ^ min (ji17).toNat 64)) = ji19 := (i64_w _).symm.trans hji19_
                    have hji19x : (ji17) ≤ 64 → (wrap64 (1 * 2 ^ (ji17).toNat)) = ji19 := fun h_ => (i64_w _).symm.trans (hji19z h_)
                    have H' := Aside0.mk H
                    clear H
                    have p6 : 0 ≤ (x14_1 : Int) := of_decide_eq_true (by first | (with_reducible assumption) | assumption)
                    have q6 : x14_1 < (a0.size : Int) := of_decide_eq_true (by first | (with_reducible assumption) | assumption)
                    have hx6 := bt_at a0 x14_1
                    replace p6 := eq_true p6
                    replace q6 := eq_true q6
                    go_wp2_with (first | ((with_reducible refine gate_callee (f := 63) rfl ?_); refine goesL_ (some 20) rfl rfl Try.func63 (by kernel_rfl) rfl #[.string (⟨#[48, 49, 50, 51, 52, 53, 54, 55, 56, 57, 97, 98, 99, 100, 101, 102, 103, 104, 105, 106, 107, 108, 109, 110, 111, 112, 113, 114, 115, 116, 117, 118]⟩ : ByteArray), .int .u8 (bt a0 x14_1)] rfl (by (try simp only [List.map_toArray, List.map_cons, List.map_nil]); first | done | rfl | (simp only [List.length_drop, List.length_take]; rfl)) ?_; (with_reducible refine (strings_IndexByte.calls (⟨#[48, 49, 50, 51, 52, 53, 54, 55, 56, 57, 97, 98, 99, 100, 101, 102, 103, 104, 105, 106, 107, 108, 109, 110, 111, 112, 113, 114, 115, 116, 117, 118]⟩ : ByteArray) (bt a0 x14_1) t102 _ A7.out).mono ?_); rintro e w' ⟨rfl, ⟨nd, rfl⟩⟩; refine ⟨_, rfl, ?_⟩))
                    go_roundg k1
                    case measure => have := HK1.out; omega
                    case rel => exact ⟨(x4_1), (Go.bits .and .i64 (Go.bits .or .i64 (wrap64 (x5_1 * 32)) t102) (wrap64 ((ji19) - 1))), (ji17), (wrap64 (x14_1 + 1)), (by first | rfl | (simp; done) | (simp only [← hji19] <;> (first | rfl | simp)) | (simp [*]; done)), (by first | rfl | (simp; done) | (simp only [← hji17] <;> (first | rfl | simp)) | (simp [*]; done)), (by first | rfl | (simp; done) | (simp [*]; done)), H', ⟨by have := HK1.out; omega⟩, ⟨by (with_reducible repeat (first | apply Kd.R_alloc | apply Kd.R_drewN | apply Kd.R_drew)); exact HO_4.out⟩, ⟨by repeat (first | (with_reducible first | exact HB.out | apply below_alloc | apply pw_below_drewN | apply below_drew1) | exact HB.out)⟩⟩
                  · rw [if_neg c18] at H
                    exact absurd H (by simp)
            · rw [if_neg c5] at H
              exact absurd H (by simp)
          · rw [if_neg c4] at H
            exact absurd H (by simp)
        · rw [if_neg c3] at H
          have c3b0 : decide (x14_1 < (a0.size : Int)) = false := decide_eq_false c3
          clear c3
          by_cases c20 : (x4_1.length : Int) > 20000
          · rw [if_pos c20] at H
            have c20b0 : decide (20000 < (x4_1.length : Int)) = true := decide_eq_true c20
            have c20b1 : decide (20000 < x4_1.length) = true := decide_eq_true (by omega)
            clear c20
            simp only [Option.some.injEq, Prod.mk.injEq] at H
            obtain ⟨rfl, rfl⟩ := H
            obtain ⟨Ao21, co21, eo21⟩ := Kd.R_slice HO_4.out
            subst eo21
            go_wp2
            go_ret2
            exact ⟨_, by first | rfl | (simp [errW_none, errW_some] <;> rfl) | (simp [*, errW_none, errW_some] <;> rfl), by first | exact Kd.R_nil _ _ _ _ _ | exact Kd.N_nil _ _ _ _ _ | exact Kd.V_nil _ _ _ _ _ | exact Kd.Q_nil _ _ _ _ _ | exact Kd.S_nil _ _ _ _ _, by repeat (first | (with_reducible first | exact HB.out | apply below_alloc | apply pw_below_drewN | apply below_drew1) | exact HB.out)⟩
          · rw [if_neg c20] at H
            have c20b0 : decide (20000 < (x4_1.length : Int)) = false := decide_eq_false c20
            have c20b1 : decide (20000 < x4_1.length) = false := decide_eq_false (by omega)
            clear c20
            replace H := Option.bind_eq_some_iff.mp H
            obtain ⟨t101, A220, H⟩ := H
            replace H : (if t101.toList = a0.toList then (some (x4_1, true)) else (some (([] : List Int), false))) = some (r1, r2) := H
            have A22 := Aside0.mk A220
            clear A220
            by_cases c23 : t101.toList = a0.toList
            · rw [if_pos c23] at H
              have c23b0 : (t101.toList == a0.toList) = true := beq_iff_eq.mpr c23
              have c23b1 : (t101.toList != a0.toList) = false := bne_eq_false_iff_eq.mpr c23
              clear c23
              simp only [Option.some.injEq, Prod.mk.injEq] at H
              obtain ⟨rfl, rfl⟩ := H
              obtain ⟨Ao24, co24, eo24⟩ := Kd.R_slice HO_4.out
              subst eo24
              go_wp2_with (first | (go_at_call 16; (with_reducible refine (impl_Armor.calls _ _ x4_1 t101 _ ?side1 ?side2 A22.out).mono ?_); (case side1 => repeat (first | exact (Kd.R_reads' HO_4.out).2.2 | (with_reducible refine Kd.C_alloc ?_ _) | (with_reducible refine Kd.C_drewN ?_ _) | (with_reducible refine Kd.C_drew ?_))); (case side2 => exact (Kd.R_reads' HO_4.out).2.1); rintro e w25 ⟨rfl, hb⟩; have n0_ := Aside0.mk (Kd.R_below (by (with_reducible repeat (first | apply Kd.R_alloc | apply Kd.R_drewN | apply Kd.R_drew)); exact HO_4.out) hb); have n1_ := Aside0.mk (below_step (by repeat (first | (with_reducible first | exact HB.out | apply below_alloc | apply pw_below_drewN | apply below_drew1) | exact HB.out)) hb); clear HO_4; clear HB; have HO_4 := n0_; have HB := n1_; clear n0_ n1_; (try clear hb); (try clear hb2); (try clear hk); (try clear hi)))
              go_ret2
              exact ⟨_, by first | rfl | (simp [errW_none, errW_some] <;> rfl) | (simp [*, errW_none, errW_some] <;> rfl), by (with_reducible repeat (first | apply Kd.R_alloc | apply Kd.R_drewN | apply Kd.R_drew)); exact HO_4.out, by repeat (first | (with_reducible first | exact HB.out | apply below_alloc | apply pw_below_drewN | apply below_drew1) | exact HB.out)⟩
            · rw [if_neg c23] at H
              have c23b0 : (t101.toList == a0.toList) = false := beq_eq_false_iff_ne.mpr c23
              have c23b1 : (t101.toList != a0.toList) = true := bne_iff_ne.mpr c23
              simp only [Option.some.injEq, Prod.mk.injEq] at H
              obtain ⟨rfl, rfl⟩ := H
              obtain ⟨Ao26, co26, eo26⟩ := Kd.R_slice HO_4.out
              subst eo26
              go_wp2_with (first | (go_at_call 16; (with_reducible refine (impl_Armor.calls _ _ x4_1 t101 _ ?side1 ?side2 A22.out).mono ?_); (case side1 => repeat (first | exact (Kd.R_reads' HO_4.out).2.2 | (with_reducible refine Kd.C_alloc ?_ _) | (with_reducible refine Kd.C_drewN ?_ _) | (with_reducible refine Kd.C_drew ?_))); (case side2 => exact (Kd.R_reads' HO_4.out).2.1); rintro e w27 ⟨rfl, hb⟩; have n0_ := Aside0.mk (Kd.R_below (by (with_reducible repeat (first | apply Kd.R_alloc | apply Kd.R_drewN | apply Kd.R_drew)); exact HO_4.out) hb); have n1_ := Aside0.mk (below_step (by repeat (first | (with_reducible first | exact HB.out | apply below_alloc | apply pw_below_drewN | apply below_drew1) | exact HB.out)) hb); clear HO_4; clear HB; have HO_4 := n0_; have HB := n1_; clear n0_ n1_; (try clear hb); (try clear hb2); (try clear hk); (try clear hi)))
              go_ret2
              exact ⟨_, by first | rfl | (simp [errW_none, errW_some] <;> rfl) | (simp [*, errW_none, errW_some] <;> rfl), by first | exact Kd.R_nil _ _ _ _ _ | exact Kd.N_nil _ _ _ _ _ | exact Kd.V_nil _ _ _ _ _ | exact Kd.Q_nil _ _ _ _ _ | exact Kd.S_nil _ _ _ _ _, by repeat (first | (with_reducible first | exact HB.out | apply below_alloc | apply pw_below_drewN | apply below_drew1) | exact HB.out)⟩

end Go.Proofs.Ytccbjchlcelkgaa.Pr
