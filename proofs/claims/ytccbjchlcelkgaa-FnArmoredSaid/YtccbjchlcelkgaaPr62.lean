-- Written by mkprint.py (a program of this repo, which drives the print.py of the kit): Lean checks it.
import Derived.Test.YtccbjchlcelkgaaPr0x
import Derived.Test.YtccbjchlcelkgaaPr124
namespace Go.Proofs.Ytccbjchlcelkgaa.Pr
open Go.RowKit Go.Proofs.YtccbjchlcelkgaaW.PrintWords Go.Proofs.YtccbjchlcelkgaaW.PrintLast Go.Proofs.YtccbjchlcelkgaaW.PrintMore
attribute [local go_sem] max2_int min2_int max_two min_two max_three min_three max_four min_four   -- for this text's walks alone
set_option linter.unusedVariables false
set_option linter.unusedSimpArgs false

/-! ### spec_l2Armor: function 62 -/
mutual
def spec_l2Armor.l0 : Nat → List Int → List Int → Int → Option (ByteArray)
  | 0, _, _, _ => none
  | k + 1, x0, x3, x4 => if x4 < (wrap64 ((x0.length : Int) * 8)) then (spec_l2Armor.l1 k x0 x3 x4 0 x4) else (some (strOfNums x3))
def spec_l2Armor.l1 : Nat → List Int → List Int → Int → Int → Int → Option (ByteArray)
  | 0, _, _, _, _, _ => none
  | k + 1, x0, x3, x4, x5, x6 => if x6 < (wrap64 (x4 + 5)) then (if x6 < (wrap64 ((x0.length : Int) * 8)) then (if 0 ≤ (wrap64 (Int.tdiv x6 8)) then (if (wrap64 (Int.tdiv x6 8)) < (x0.length : Int) then (if 0 ≤ (IntKind.u64.wrap (wrap64 (7 - (Int.tmod x6 8)))) then (spec_l2Armor.l1 k x0 x3 x4 (wrap64 ((wrap64 (x5 * 2)) + (Go.bits .and .i64 (shr .i64 (wrap64 (rd x0 (wrap64 (Int.tdiv x6 8)))) (IntKind.u64.wrap (wrap64 (7 - (Int.tmod x6 8))))) 1))) (wrap64 (x6 + 1))) else (none)) else (none)) else (none)) else (spec_l2Armor.l1 k x0 x3 x4 (wrap64 (x5 * 2)) (wrap64 (x6 + 1)))) else ((spec_l2Letters.f).bind fun t102 => (if 0 ≤ x5 then (if x5 < (t102.size : Int) then (if x3.length < 140737488355328 then (spec_l2Armor.l0 k x0 (x3 ++ [bt t102 x5]) (wrap64 (x4 + 5))) else (none)) else (none)) else (none)))
end
def spec_l2Armor.f (k : Nat) (l0 : List Int) : Option (ByteArray) := spec_l2Armor.l0 k l0 ([] : List Int) 0
theorem spec_l2Armor.mono_l : ∀ k, (∀ y0 y1 y2, LeO (spec_l2Armor.l0 k y0 y1 y2) (spec_l2Armor.l0 (k + 1) y0 y1 y2)) ∧ (∀ y0 y1 y2 y3 y4, LeO (spec_l2Armor.l1 k y0 y1 y2 y3 y4) (spec_l2Armor.l1 (k + 1) y0 y1 y2 y3 y4))
  | 0 => ⟨fun _ _ _ r h => by simp [spec_l2Armor.l0] at h, fun _ _ _ _ _ r h => by simp [spec_l2Armor.l1] at h⟩
  | k + 1 => by
    obtain ⟨ih0, ih1⟩ := spec_l2Armor.mono_l k
    refine ⟨?_, ?_⟩
    · intro y0 y1 y2
      unfold spec_l2Armor.l0
      repeat' first
      | (with_reducible exact ih0 _ _ _)
      | (with_reducible exact ih1 _ _ _ _ _)
      | (with_reducible exact LeO.refl _)
      | (with_reducible exact LeO.none _)
      | (with_reducible refine LeO.ite ?_ ?_)
      | (with_reducible refine LeO.bind ?_ (fun _ => ?_))
      | exact ih0 _ _ _
      | exact ih1 _ _ _ _ _
      | exact LeO.none _
      | refine LeO.ite ?_ ?_
      | refine LeO.bind ?_ (fun _ => ?_)
    · intro y0 y1 y2 y3 y4
      unfold spec_l2Armor.l1
      repeat' first
      | (with_reducible exact ih0 _ _ _)
      | (with_reducible exact ih1 _ _ _ _ _)
      | (with_reducible exact LeO.refl _)
      | (with_reducible exact LeO.none _)
      | (with_reducible refine LeO.ite ?_ ?_)
      | (with_reducible refine LeO.bind ?_ (fun _ => ?_))
      | exact ih0 _ _ _
      | exact ih1 _ _ _ _ _
      | exact LeO.none _
      | refine LeO.ite ?_ ?_
      | refine LeO.bind ?_ (fun _ => ?_)
theorem spec_l2Armor.mono : ∀ a0 k, LeO (spec_l2Armor.f k a0) (spec_l2Armor.f (k + 1) a0) := by
  intro a0 k
  obtain ⟨ih0, ih1⟩ := spec_l2Armor.mono_l k
  unfold spec_l2Armor.f
  repeat' first
      | (with_reducible exact ih0 _ _ _)
      | (with_reducible exact ih1 _ _ _ _ _)
      | (with_reducible exact LeO.refl _)
      | (with_reducible exact LeO.none _)
      | (with_reducible refine LeO.ite ?_ ?_)
      | (with_reducible refine LeO.bind ?_ (fun _ => ?_))
      | exact ih0 _ _ _
      | exact ih1 _ _ _ _ _
      | exact LeO.none _
      | refine LeO.ite ?_ ?_
      | refine LeO.bind ?_ (fun _ => ?_)
set_option maxHeartbeats 8000000 in
set_option maxRecDepth 100000 in
theorem spec_l2Armor.calls (k : Nat) (A0 : Option Addr) (c0 : Nat) (l0 : List Int) (r : ByteArray) (w : World) (hr0 : Kd.C (Kd.int .u8) w A0 l0.length l0) (hc0 : l0.length ≤ c0) (h : spec_l2Armor.f k l0 = some r) :
    Calls Try.prog 62 #[.slice A0 l0.length c0] w fun e w' => e = .returned (.string r) ∧ Below w.heap.size w w' := by
  have HR0 := Aside0.mk hr0
  have HC0 := Aside0.mk hc0
  clear hr0 hc0
  have HB := Aside0.mk (Below.refl w.heap.size w)
  have H : (spec_l2Armor.l0 k l0 ([] : List Int) 0) = some r := h
  clear h
  have H' := Aside0.mk H
  clear H
  go_enter Try.func62, Try.ntmps62
  go_wp2
  go_loopg [3, 4] k (fun kq v3 v4 w' => ∃ (x3_1 : List Int) (x4_1 : Int), v4 = .int .i64 x4_1 ∧ Aside0 (spec_l2Armor.l0 kq l0 x3_1 x4_1 = some r) ∧ Aside0 (kq ≤ k) ∧ Aside0 (Kd.R (Kd.int .u8) 5 w' w.heap.size (fun _ => True) v3 x3_1) ∧ Aside0 (Below w.heap.size w w'))
  case atStart => exact ⟨(([] : List Int)), (0), (by first | rfl | (simp; done) | (simp [*]; done)), H', ⟨Nat.le_refl _⟩, ⟨by first | exact Kd.R_nil _ _ _ _ _ | exact Kd.N_nil _ _ _ _ _ | exact Kd.V_nil _ _ _ _ _ | exact Kd.Q_nil _ _ _ _ _ | exact Kd.S_nil _ _ _ _ _⟩, ⟨by repeat (first | (with_reducible first | exact HB.out | apply below_alloc | apply pw_below_drewN | apply below_drew1) | exact HB.out)⟩⟩
  case round =>
    clear H'
    obtain ⟨x3_1, x4_1, rfl, HA, HK1, HO_3, HB⟩ := hrel
    cases gk with
    | zero => exact absurd HA.out (by simp [spec_l2Armor.l0])
    | succ k1 =>
      have H := HA.out
      clear HA
      simp only [spec_l2Armor.l0] at H
      by_cases c2 : x4_1 < (wrap64 ((l0.length : Int) * 8))
      · rw [if_pos c2] at H
        have c2b0 : decide (x4_1 < (wrap64 ((l0.length : Int) * 8))) = true := decide_eq_true c2
        clear c2
        have H' := Aside0.mk H
        clear H
        go_wp2
        go_loopg [5, 6] k1 (fun kq v5 v6 w' => ∃ (x5_2 : Int) (x6_2 : Int), v5 = .int .i64 x5_2 ∧ v6 = .int .i64 x6_2 ∧ Aside0 (spec_l2Armor.l1 kq l0 x3_1 x4_1 x5_2 x6_2 = some r) ∧ Aside0 (kq ≤ k1) ∧ Aside0 (Kd.R (Kd.int .u8) 5 w' w.heap.size (fun _ => True) u3 x3_1) ∧ Aside0 (Below w.heap.size w w'))
        case atStart => exact ⟨(0), (x4_1), (by first | rfl | (simp; done) | (simp [*]; done)), (by first | rfl | (simp; done) | (simp [*]; done)), H', ⟨Nat.le_refl _⟩, ⟨by (with_reducible repeat (first | apply Kd.R_alloc | apply Kd.R_drewN | apply Kd.R_drew)); exact HO_3.out⟩, ⟨by repeat (first | (with_reducible first | exact HB.out | apply below_alloc | apply pw_below_drewN | apply below_drew1) | exact HB.out)⟩⟩
        case round =>
          clear H'
          try clear c2
          try clear c2b0
          try clear p2
          obtain ⟨x5_2, x6_2, rfl, rfl, HA, HK2, HO_3, HB⟩ := hrel
          cases gk with
          | zero => exact absurd HA.out (by simp [spec_l2Armor.l1])
          | succ k2 =>
            have H := HA.out
            clear HA
            simp only [spec_l2Armor.l1] at H
            by_cases c3 : x6_2 < (wrap64 (x4_1 + 5))
            · rw [if_pos c3] at H
              have c3b0 : decide (x6_2 < (wrap64 (x4_1 + 5))) = true := decide_eq_true c3
              clear c3
              by_cases c4 : x6_2 < (wrap64 ((l0.length : Int) * 8))
              · rw [if_pos c4] at H
                have c4b0 : decide (x6_2 < (wrap64 ((l0.length : Int) * 8))) = true := decide_eq_true c4
                clear c4
                obtain ⟨ji5, hji5⟩ : ∃ j_ : Int, (wrap64 (Int.tdiv x6_2 8)) = j_ := ⟨_, rfl⟩
                replace H : (if 0 ≤ (ji5) then (if (ji5) < (l0.length : Int) then (if 0 ≤ (IntKind.u64.wrap (wrap64 (7 - (Int.tmod x6_2 8)))) then (spec_l2Armor.l1 k2 l0 x3_1 x4_1 (wrap64 ((wrap64 (x5_2 * 2)) + (Go.bits .and .i64 (shr .i64 (wrap64 (rd l0 (ji5))) (IntKind.u64.wrap (wrap64 (7 - (Int.tmod x6_2 8))))) 1))) (wrap64 (x6_2 + 1))) else (none)) else (none)) else (none)) = some r := by first | (rw [hji5] at H; exact H) | (simp only [hji5] at H ⊢; exact H)
                have hji5w : (IntKind.i64.wrap (Int.tdiv x6_2 8)) = ji5 := (i64_w _).trans hji5
                by_cases c6 : 0 ≤ (ji5)
                · rw [if_pos c6] at H
                  have c6b0 : decide (0 ≤ (ji5)) = true := decide_eq_true c6
                  clear c6
                  by_cases c7 : (ji5) < (l0.length : Int)
                  · rw [if_pos c7] at H
                    have c7b0 : decide ((ji5) < (l0.length : Int)) = true := decide_eq_true c7
                    clear c7
                    obtain ⟨ji8, hji8⟩ : ∃ j_ : Int, (IntKind.u64.wrap (wrap64 (7 - (Int.tmod x6_2 8)))) = j_ := ⟨_, rfl⟩
                    replace H : (if 0 ≤ (ji8) then (spec_l2Armor.l1 k2 l0 x3_1 x4_1 (wrap64 ((wrap64 (x5_2 * 2)) + (Go.bits .and .i64 (shr .i64 (wrap64 (rd l0 (ji5))) (ji8)) 1))) (wrap64 (x6_2 + 1))) else (none)) = some r := by first | (rw [hji8] at H; exact H) | (simp only [hji8] at H ⊢; exact H)
                    by_cases c9 : 0 ≤ (ji8)
                    · rw [if_pos c9] at H
                      have c9b0 := eq_true c9
                      have c9b1 : decide (0 ≤ (ji8)) = true := decide_eq_true c9
                      clear c9
                      obtain ⟨ji10, hji10⟩ : ∃ j_ : Int, (shr .i64 (wrap64 (rd l0 (ji5))) (ji8)) = j_ := ⟨_, rfl⟩
                      replace H : (spec_l2Armor.l1 k2 l0 x3_1 x4_1 (wrap64 ((wrap64 (x5_2 * 2)) + (Go.bits .and .i64 (ji10) 1))) (wrap64 (x6_2 + 1))) = some r := by first | (rw [hji10] at H; exact H) | (simp only [hji10] at H ⊢; exact H)
                      have hji10_ : ((wrap64 (rd l0 (ji5))) / 2 ^ min (ji8).toNat 64) = ji10 := hji10
                      have hji10z : (ji8) ≤ 64 → ((wrap64 (rd l0 (ji5))) / 2 ^ (ji8).toNat) = ji10 := shr_small hji10
                      have H' := Aside0.mk H
                      clear H
                      have p101 : 0 ≤ ((ji5) : Int) := of_decide_eq_true (by first | (with_reducible assumption) | assumption)
                      have q101 : (ji5) < (l0.length : Int) := of_decide_eq_true (by first | (with_reducible assumption) | assumption)
                      obtain ⟨ad101, e101, hx101_0⟩ := Kd.at_int HR0.out (ji5) p101 q101
                      cases e101
                      replace hx101_0 := (HB.out.cell (World.block_lt_of_cell? w _ hx101_0)).trans hx101_0
                      replace p101 := eq_true p101
                      replace q101 := eq_true q101
                      go_wp2
                      go_roundg k2
                      case measure => have := HK1.out; have := HK2.out; omega
                      case rel => exact ⟨(wrap64 ((wrap64 (x5_2 * 2)) + (Go.bits .and .i64 (ji10) 1))), (wrap64 (x6_2 + 1)), (by first | rfl | (simp; done) | (simp only [← hji10] <;> (first | rfl | simp)) | (simp [*]; done)), (by first | rfl | (simp; done) | (simp [*]; done)), H', ⟨by have := HK1.out; have := HK2.out; omega⟩, ⟨by (with_reducible repeat (first | apply Kd.R_alloc | apply Kd.R_drewN | apply Kd.R_drew)); exact HO_3.out⟩, ⟨by repeat (first | (with_reducible first | exact HB.out | apply below_alloc | apply pw_below_drewN | apply below_drew1) | exact HB.out)⟩⟩
                    · rw [if_neg c9] at H
                      exact absurd H (by simp)
                  · rw [if_neg c7] at H
                    exact absurd H (by simp)
                · rw [if_neg c6] at H
                  exact absurd H (by simp)
              · rw [if_neg c4] at H
                have c4b0 : decide (x6_2 < (wrap64 ((l0.length : Int) * 8))) = false := decide_eq_false c4
                clear c4
                have H' := Aside0.mk H
                clear H
                go_wp2
                go_roundg k2
                case measure => have := HK1.out; have := HK2.out; omega
                case rel => exact ⟨(wrap64 (x5_2 * 2)), (wrap64 (x6_2 + 1)), (by first | rfl | (simp; done) | (simp [*]; done)), (by first | rfl | (simp; done) | (simp [*]; done)), H', ⟨by have := HK1.out; have := HK2.out; omega⟩, ⟨by (with_reducible repeat (first | apply Kd.R_alloc | apply Kd.R_drewN | apply Kd.R_drew)); exact HO_3.out⟩, ⟨by repeat (first | (with_reducible first | exact HB.out | apply below_alloc | apply pw_below_drewN | apply below_drew1) | exact HB.out)⟩⟩
            · rw [if_neg c3] at H
              have c3b0 : decide (x6_2 < (wrap64 (x4_1 + 5))) = false := decide_eq_false c3
              clear c3
              replace H := Option.bind_eq_some_iff.mp H
              obtain ⟨t102, A110, H⟩ := H
              replace H : (if 0 ≤ x5_2 then (if x5_2 < (t102.size : Int) then (if x3_1.length < 140737488355328 then (spec_l2Armor.l0 k2 l0 (x3_1 ++ [bt t102 x5_2]) (wrap64 (x4_1 + 5))) else (none)) else (none)) else (none)) = some r := H
              have A11 := Aside0.mk A110
              clear A110
              by_cases c12 : 0 ≤ x5_2
              · rw [if_pos c12] at H
                have c12b0 : decide (0 ≤ x5_2) = true := decide_eq_true c12
                clear c12
                by_cases c13 : x5_2 < (t102.size : Int)
                · rw [if_pos c13] at H
                  have c13b0 : decide (x5_2 < (t102.size : Int)) = true := decide_eq_true c13
                  clear c13
                  by_cases c15 : x3_1.length < 140737488355328
                  · rw [if_pos c15] at H
                    have LMc15 := Aside0.mk c15
                    clear c15
                    obtain ⟨y103, hy103⟩ : ∃ y_ : List Int, y_ = (x3_1 ++ [bt t102 x5_2]) := ⟨_, rfl⟩
                    replace H : (spec_l2Armor.l0 k2 l0 y103 (wrap64 (x4_1 + 5))) = some r := by first | (rw [hy103]; with_reducible exact H) | (have H2_ := (Option.bind_some _ _).symm.trans H; rw [hy103]; with_reducible exact H2_) | (have H2_ := (Option.bind_some _ _).symm.trans H; with_reducible exact H2_) | with_reducible exact H | (rw [hy103]; exact H) | exact H
                    have Ny103 := Aside0.mk hy103
                    clear hy103
                    have H' := Aside0.mk H
                    clear H
                    go_wp2_with (first | ((with_reducible refine gate_callee (f := 124) rfl ?_); refine goesL_ (some 43) rfl rfl Try.func124 (by kernel_rfl) rfl #[] rfl (by (try simp only [List.map_toArray, List.map_cons, List.map_nil]); first | done | rfl | (simp only [List.length_drop, List.length_take]; rfl)) ?_; (with_reducible refine (spec_l2Letters.calls  t102 _ A11.out).mono ?_); rintro e w' ⟨rfl, ⟨nd, rfl⟩⟩; refine ⟨_, rfl, ?_⟩; have p14 : 0 ≤ (x5_2 : Int) := of_decide_eq_true (by first | (with_reducible assumption) | assumption); have q14 : x5_2 < (t102.size : Int) := of_decide_eq_true (by first | (with_reducible assumption) | assumption); have hx14 := bt_at t102 x5_2; replace p14 := eq_true p14; replace q14 := eq_true q14) | ((with_reducible refine gate_builtin (b := .append) (xs := #[.tmp 42, .tmp 46]) rfl ?_); at_builtin; refine Kd.R_append (Kd.int .u8) (w0 := w) w.heap.size rfl (.tmp 42) (.tmp 46) 22 5 (.int .u8 0) 1 rfl Try.underlying22 info5 rfl (by decide) (by omega) u3 x3_1 (bt t102 x5_2) [.int .u8 (bt t102 x5_2)] (fun _ => True) (fun _ => False) rfl rfl ?aP (fun _ hk => hk.elim) ?aF ?aO ?aB ?aS ?aL ?_; (case aP => exact rfl); (case aB => exact (by repeat (first | (with_reducible first | exact HB.out | apply below_alloc | apply pw_below_drewN | apply below_drew1) | exact HB.out))); (case aF => exact (fun _ _ => trivial)); (case aO => exact (by (with_reducible repeat (first | apply Kd.R_alloc | apply Kd.R_drewN | apply Kd.R_drew)); exact HO_3.out)); (case aS => exact (below_size (by repeat (first | (with_reducible first | exact HB.out | apply below_alloc | apply pw_below_drewN | apply below_drew1) | exact HB.out)))); (case aL => have := LMc15.out; omega); intro v104 w16 ho hb hg hat; rw [← Ny103.out] at ho; have n0_ := Aside0.mk (hb); have n1_ := Aside0.mk (ho); clear HB; clear HO_3; have HB := n0_; have HO105 := n1_; clear n0_ n1_; clear ho hb hg hat))
                    go_roundg k2
                    case measure => have := HK1.out; have := HK2.out; omega
                    case rel => exact ⟨(y103), (wrap64 (x4_1 + 5)), (by first | rfl | (simp; done) | (simp [*]; done)), H', ⟨by have := HK1.out; have := HK2.out; omega⟩, ⟨by (with_reducible repeat (first | apply Kd.R_alloc | apply Kd.R_drewN | apply Kd.R_drew)); exact HO105.out⟩, ⟨by repeat (first | (with_reducible first | exact HB.out | apply below_alloc | apply pw_below_drewN | apply below_drew1) | exact HB.out)⟩⟩
                  · rw [if_neg c15] at H
                    exact absurd H (by simp)
                · rw [if_neg c13] at H
                  exact absurd H (by simp)
              · rw [if_neg c12] at H
                exact absurd H (by simp)
      · rw [if_neg c2] at H
        have c2b0 : decide (x4_1 < (wrap64 ((l0.length : Int) * 8))) = false := decide_eq_false c2
        clear c2
        obtain rfl := Option.some.inj H
        have hcv17 := own_string (P := Try.prog) Try.underlying22 Try.underlying5 Try.underlying9 (Kd.own_of_R HO_3.out)
        go_wp2
        go_ret
        exact ⟨by first | rfl | (simp [errW_none, errW_some] <;> rfl) | (simp [*, errW_none, errW_some] <;> rfl), by repeat (first | (with_reducible first | exact HB.out | apply below_alloc | apply pw_below_drewN | apply below_drew1) | exact HB.out)⟩

end Go.Proofs.Ytccbjchlcelkgaa.Pr
