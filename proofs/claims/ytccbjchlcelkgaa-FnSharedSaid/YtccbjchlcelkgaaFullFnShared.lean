/- The law FnShared: whatever the input, the call returns true and the arguments read as before. No conditions. -/
import Derived.Test.YtccbjchlcelkgaaFullFnSharedB
import Derived.Maps.Own
import Derived.Maps.OwnOps
import Derived.Maps.Views
import Derived.Deep.QuietTactic
import Derived.BigQuiet
import Derived.Laws.Cover1
import Derived.Test.YtccbjchlcelkgaaRows
import Derived.WalkKit
import Derived.ProofKit
import Derived.OpenShut
import Derived.ShutString
import Derived.ChangeOld
import Derived.Below
namespace Go.Proofs.Ytccbjchlcelkgaa.Pr
open Go.RowKit Go.Proofs.YtccbjchlcelkgaaW.PrintWords Go.Proofs.YtccbjchlcelkgaaW.PrintLast Go.Proofs.YtccbjchlcelkgaaW.PrintMore
attribute [local go_sem] max2_int min2_int max_two min_two max_three min_three max_four min_four
set_option linter.unusedVariables false
set_option linter.unusedSimpArgs false
mutual
def spec_Split.j0 : Nat → Int → Int → Int → List Int → Bool → Option ((List (S51)))
  | 0, _, _, _, _, _ => none
  | k + 1, x0, x1, x2, x3, x37 => if x37 = true then (some ([] : List (S51))) else (spec_Split.l0 k x0 x1 x2 x3 ([] : List (S51)) 1)
def spec_Split.l0 : Nat → Int → Int → Int → List Int → List (S51) → Int → Option ((List (S51)))
  | 0, _, _, _, _, _, _ => none
  | k + 1, x0, x1, x2, x3, x9, x10 => if x10 ≤ x1 then (spec_Split.l1 k x0 x1 x2 x3 x9 x10 x0 1 1) else (some x9)
def spec_Split.l1 : Nat → Int → Int → Int → List Int → List (S51) → Int → Int → Int → Int → Option ((List (S51)))
  | 0, _, _, _, _, _, _, _, _, _ => none
  | k + 1, x0, x1, x2, x3, x9, x10, x11, x12, x13 => if x13 < x2 then ((spec_l2Mac.f k x3 (([(x13) % 256] : List Int))).bind fun t104 => ((spec_l2Number.f k t104).bind fun t107 => (spec_Split.l1 k x0 x1 x2 x3 x9 x10 (Int.tmod (wrap64 (x11 + (wrap64 ((Int.tmod t107 1073741789) * (Int.tmod (wrap64 (x12 * x10)) 1073741789))))) 1073741789) (Int.tmod (wrap64 (x12 * x10)) 1073741789) (wrap64 (x13 + 1))))) else (if x9.length < 8796093022208 then (spec_Split.l0 k x0 x1 x2 x3 (x9 ++ [(⟨x10, x11⟩ : S51)]) (wrap64 (x10 + 1))) else (none))
end
def spec_Split.f (k : Nat) (a0 : Int) (a1 : Int) (a2 : Int) (l3 : List Int) : Option ((List (S51))) := if a0 < 0 then (spec_Split.j0 k a0 a1 a2 l3 true) else (if a0 ≥ 1073741789 then (spec_Split.j0 k a0 a1 a2 l3 true) else (if a2 < 1 then (spec_Split.j0 k a0 a1 a2 l3 true) else (if a1 < a2 then (spec_Split.j0 k a0 a1 a2 l3 true) else (if a1 > 20 then (spec_Split.j0 k a0 a1 a2 l3 true) else (spec_Split.j0 k a0 a1 a2 l3 (decide ((l3.length : Int) > 20000)))))))
set_option maxHeartbeats 8000000 in
set_option maxRecDepth 100000 in
theorem spec_Split.calls (k : Nat) (a0 : Int) (a1 : Int) (a2 : Int) (A3 : Option Addr) (c3 : Nat) (l3 : List Int) (r : List (S51)) (w : World) (hr3 : Kd.C (Kd.int .u8) w A3 l3.length l3) (hc3 : l3.length ≤ c3) (h : spec_Split.f k a0 a1 a2 l3 = some r) :
    Calls Try.prog 34 #[.int .i64 a0, .int .i64 a1, .int .i64 a2, .slice A3 l3.length c3] w fun e w' => ∃ v0_ : Value, e = .returned (v0_) ∧ Kd.R k51 51 w' w.heap.size (fun _ => True) v0_ r ∧ Below w.heap.size w w' := by
  have hu51 := Try.underlying51
  have HR3 := Aside0.mk hr3
  have HC3 := Aside0.mk hc3
  clear hr3 hc3
  have HB := Aside0.mk (Below.refl w.heap.size w)
  have H : (if a0 < 0 then (spec_Split.j0 k a0 a1 a2 l3 true) else (if a0 ≥ 1073741789 then (spec_Split.j0 k a0 a1 a2 l3 true) else (if a2 < 1 then (spec_Split.j0 k a0 a1 a2 l3 true) else (if a1 < a2 then (spec_Split.j0 k a0 a1 a2 l3 true) else (if a1 > 20 then (spec_Split.j0 k a0 a1 a2 l3 true) else (spec_Split.j0 k a0 a1 a2 l3 (decide ((l3.length : Int) > 20000)))))))) = some r := h
  clear h
  have HC5 := Aside0.mk H
  clear H
  go_enter Try.func34, Try.ntmps34
  go_upto_region 1 with (fail)
  go_cut [37] (fun v37 wc => ∃ (kq : Nat) (x37_4 : Bool), v37 = .bool x37_4 ∧ Aside0 (spec_Split.j0 kq a0 a1 a2 l3 x37_4 = some r) ∧ Aside0 (kq ≤ k) ∧ Aside0 (Below w.heap.size w wc))
  case first =>
    have H := HC5.out
    clear HC5
    by_cases c6 : a0 < 0
    · rw [if_pos c6] at H
      have c6b0 : decide (a0 < 0) = true := decide_eq_true c6
      clear c6
      (first | rw [c6b0] | (simp only [i64_w, i32_w]; rw [c6b0]) | skip)
      have H' := Aside0.mk H
      clear H
      go_wp2
      go_meet
      case rel => exact ⟨_, (true), (by first | rfl | (simp; done) | (simp [*]; done)), H', ⟨by first | omega | exact Nat.le_refl _⟩, ⟨by repeat (first | (with_reducible first | exact HB.out | apply below_alloc | apply pw_below_drewN | apply below_drew1) | exact HB.out)⟩⟩
    · rw [if_neg c6] at H
      have c6b0 : decide (a0 < 0) = false := decide_eq_false c6
      clear c6
      (first | rw [c6b0] | (simp only [i64_w, i32_w]; rw [c6b0]) | skip)
      by_cases c7 : a0 ≥ 1073741789
      · rw [if_pos c7] at H
        have c7b0 : decide (1073741789 ≤ a0) = true := decide_eq_true c7
        clear c7
        have H' := Aside0.mk H
        clear H
        go_wp2
        go_meet
        case rel => exact ⟨_, (true), (by first | rfl | (simp; done) | (simp [*]; done)), H', ⟨by first | omega | exact Nat.le_refl _⟩, ⟨by repeat (first | (with_reducible first | exact HB.out | apply below_alloc | apply pw_below_drewN | apply below_drew1) | exact HB.out)⟩⟩
      · rw [if_neg c7] at H
        have c7b0 : decide (1073741789 ≤ a0) = false := decide_eq_false c7
        clear c7
        by_cases c8 : a2 < 1
        · rw [if_pos c8] at H
          have c8b0 : decide (a2 < 1) = true := decide_eq_true c8
          clear c8
          have H' := Aside0.mk H
          clear H
          go_wp2
          go_meet
          case rel => exact ⟨_, (true), (by first | rfl | (simp; done) | (simp [*]; done)), H', ⟨by first | omega | exact Nat.le_refl _⟩, ⟨by repeat (first | (with_reducible first | exact HB.out | apply below_alloc | apply pw_below_drewN | apply below_drew1) | exact HB.out)⟩⟩
        · rw [if_neg c8] at H
          have c8b0 : decide (a2 < 1) = false := decide_eq_false c8
          clear c8
          by_cases c9 : a1 < a2
          · rw [if_pos c9] at H
            have c9b0 : decide (a1 < a2) = true := decide_eq_true c9
            clear c9
            have H' := Aside0.mk H
            clear H
            go_wp2
            go_meet
            case rel => exact ⟨_, (true), (by first | rfl | (simp; done) | (simp [*]; done)), H', ⟨by first | omega | exact Nat.le_refl _⟩, ⟨by repeat (first | (with_reducible first | exact HB.out | apply below_alloc | apply pw_below_drewN | apply below_drew1) | exact HB.out)⟩⟩
          · rw [if_neg c9] at H
            have c9b0 : decide (a1 < a2) = false := decide_eq_false c9
            clear c9
            by_cases c10 : a1 > 20
            · rw [if_pos c10] at H
              have c10b0 : decide (20 < a1) = true := decide_eq_true c10
              clear c10
              have H' := Aside0.mk H
              clear H
              go_wp2
              go_meet
              case rel => exact ⟨_, (true), (by first | rfl | (simp; done) | (simp [*]; done)), H', ⟨by first | omega | exact Nat.le_refl _⟩, ⟨by repeat (first | (with_reducible first | exact HB.out | apply below_alloc | apply pw_below_drewN | apply below_drew1) | exact HB.out)⟩⟩
            · rw [if_neg c10] at H
              have c10b0 : decide (20 < a1) = false := decide_eq_false c10
              clear c10
              have H' := Aside0.mk H
              clear H
              go_wp2
              go_meet
              case rel => exact ⟨_, (decide ((l3.length : Int) > 20000)), (by first | rfl | (simp; done) | (simp [*]; done)), H', ⟨by first | omega | exact Nat.le_refl _⟩, ⟨by repeat (first | (with_reducible first | exact HB.out | apply below_alloc | apply pw_below_drewN | apply below_drew1) | exact HB.out)⟩⟩
  case rest =>
    clear HC5
    try clear c1
    try clear p2
    try clear c3
    try clear c6
    try clear c6b0
    try clear c7
    try clear c7b0
    try clear c8
    try clear c8b0
    try clear c9
    try clear c9b0
    try clear c10
    try clear c10b0
    obtain ⟨kq, x37_4, rfl, HA, HJ4, HB⟩ := hcut
    cases kq with
    | zero => exact absurd HA.out (by simp [spec_Split.j0])
    | succ kj4 =>
      have H := HA.out
      clear HA
      simp only [spec_Split.j0] at H
      by_cases c11 : x37_4 = true
      · subst c11
        have H1 : (some ([] : List (S51))) = some r := by rw [if_pos rfl] at H; exact H
        clear H
        have H := H1
        clear H1
        obtain rfl := Option.some.inj H
        go_wp2
        go_ret
        exact ⟨_, by first | rfl | (simp [errW_none, errW_some] <;> rfl) | (simp [*, errW_none, errW_some] <;> rfl), by first | exact Kd.R_nil _ _ _ _ _ | exact Kd.N_nil _ _ _ _ _ | exact Kd.V_nil _ _ _ _ _ | exact Kd.Q_nil _ _ _ _ _ | exact Kd.S_nil _ _ _ _ _, by repeat (first | (with_reducible first | exact HB.out | apply below_alloc | apply pw_below_drewN | apply below_drew1) | exact HB.out)⟩
      · replace c11 := Bool.eq_false_iff.mpr c11
        subst c11
        have H1 : (spec_Split.l0 kj4 a0 a1 a2 l3 ([] : List (S51)) 1) = some r := by rw [if_neg (show ¬ (false = true) by decide)] at H; exact H
        clear H
        have H := H1
        clear H1
        have H' := Aside0.mk H
        clear H
        go_wp2
        go_loopg [9, 10] kj4 (fun kq v9 v10 w' => ∃ (x9_2 : List (S51)) (x10_2 : Int), v10 = .int .i64 x10_2 ∧ Aside0 (spec_Split.l0 kq a0 a1 a2 l3 x9_2 x10_2 = some r) ∧ Aside0 (kq ≤ kj4) ∧ Aside0 (Kd.R k51 51 w' w.heap.size (fun _ => True) v9 x9_2) ∧ Aside0 (Below w.heap.size w w'))
        case atStart => exact ⟨(([] : List (S51))), (1), (by first | rfl | (simp; done) | (simp [*]; done)), H', ⟨Nat.le_refl _⟩, ⟨by first | exact Kd.R_nil _ _ _ _ _ | exact Kd.N_nil _ _ _ _ _ | exact Kd.V_nil _ _ _ _ _ | exact Kd.Q_nil _ _ _ _ _ | exact Kd.S_nil _ _ _ _ _⟩, ⟨by repeat (first | (with_reducible first | exact HB.out | apply below_alloc | apply pw_below_drewN | apply below_drew1) | exact HB.out)⟩⟩
        case round =>
          clear H'
          try clear c1
          try clear p2
          try clear c3
          try clear c6
          try clear c6b0
          try clear c7
          try clear c7b0
          try clear c8
          try clear c8b0
          try clear c9
          try clear c9b0
          try clear c10
          try clear c10b0
          try clear c11
          try clear p2
          obtain ⟨x9_2, x10_2, rfl, HA, HK2, HO_9, HB⟩ := hrel
          cases gk with
          | zero => exact absurd HA.out (by simp [spec_Split.l0])
          | succ k2 =>
            have H := HA.out
            clear HA
            simp only [spec_Split.l0] at H
            by_cases c12 : x10_2 ≤ a1
            · rw [if_pos c12] at H
              have c12b0 : decide (x10_2 ≤ a1) = true := decide_eq_true c12
              clear c12
              have H' := Aside0.mk H
              clear H
              go_wp2
              go_loopg [11, 12, 13] k2 (fun kq v11 v12 v13 w' => ∃ (x11_3 : Int) (x12_3 : Int) (x13_3 : Int), v11 = .int .i64 x11_3 ∧ v12 = .int .i64 x12_3 ∧ v13 = .int .i64 x13_3 ∧ Aside0 (spec_Split.l1 kq a0 a1 a2 l3 x9_2 x10_2 x11_3 x12_3 x13_3 = some r) ∧ Aside0 (kq ≤ k2) ∧ Aside0 (Kd.R k51 51 w' w.heap.size (fun _ => True) u9 x9_2) ∧ Aside0 (Below w.heap.size w w'))
              case atStart => exact ⟨(a0), (1), (1), (by first | rfl | (simp; done) | (simp [*]; done)), (by first | rfl | (simp; done) | (simp [*]; done)), (by first | rfl | (simp; done) | (simp [*]; done)), H', ⟨Nat.le_refl _⟩, ⟨by (with_reducible repeat (first | apply Kd.R_alloc | apply Kd.R_drewN | apply Kd.R_drew)); exact HO_9.out⟩, ⟨by repeat (first | (with_reducible first | exact HB.out | apply below_alloc | apply pw_below_drewN | apply below_drew1) | exact HB.out)⟩⟩
              case round =>
                clear H'
                try clear c1
                try clear p2
                try clear c3
                try clear c6
                try clear c6b0
                try clear c7
                try clear c7b0
                try clear c8
                try clear c8b0
                try clear c9
                try clear c9b0
                try clear c10
                try clear c10b0
                try clear c11
                try clear c12
                try clear c12b0
                try clear p2
                obtain ⟨x11_3, x12_3, x13_3, rfl, rfl, rfl, HA, HK3, HO_9, HB⟩ := hrel
                cases gk with
                | zero => exact absurd HA.out (by simp [spec_Split.l1])
                | succ k3 =>
                  have H := HA.out
                  clear HA
                  simp only [spec_Split.l1] at H
                  by_cases c13 : x13_3 < a2
                  · rw [if_pos c13] at H
                    have c13b0 : decide (x13_3 < a2) = true := decide_eq_true c13
                    clear c13
                    obtain ⟨y101, hy101⟩ : ∃ y_ : List Int, y_ = (([(x13_3) % 256] : List Int)) := ⟨_, rfl⟩
                    replace H : ((spec_l2Mac.f k3 l3 y101).bind fun t104 => ((spec_l2Number.f k3 t104).bind fun t107 => (spec_Split.l1 k3 a0 a1 a2 l3 x9_2 x10_2 (Int.tmod (wrap64 (x11_3 + (wrap64 ((Int.tmod t107 1073741789) * (Int.tmod (wrap64 (x12_3 * x10_2)) 1073741789))))) 1073741789) (Int.tmod (wrap64 (x12_3 * x10_2)) 1073741789) (wrap64 (x13_3 + 1))))) = some r := by first | (rw [hy101]; with_reducible exact H) | (have H2_ := (Option.bind_some _ _).symm.trans H; rw [hy101]; with_reducible exact H2_) | (have H2_ := (Option.bind_some _ _).symm.trans H; with_reducible exact H2_) | with_reducible exact H | (rw [hy101]; exact H) | exact H
                    have Ny101 := Aside0.mk hy101
                    clear hy101
                    replace H := Option.bind_eq_some_iff.mp H
                    obtain ⟨t104, A140, H⟩ := H
                    replace H : ((spec_l2Number.f k3 t104).bind fun t107 => (spec_Split.l1 k3 a0 a1 a2 l3 x9_2 x10_2 (Int.tmod (wrap64 (x11_3 + (wrap64 ((Int.tmod t107 1073741789) * (Int.tmod (wrap64 (x12_3 * x10_2)) 1073741789))))) 1073741789) (Int.tmod (wrap64 (x12_3 * x10_2)) 1073741789) (wrap64 (x13_3 + 1)))) = some r := H
                    have A14 := Aside0.mk A140
                    clear A140
                    replace H := Option.bind_eq_some_iff.mp H
                    obtain ⟨t107, A150, H⟩ := H
                    replace H : (spec_Split.l1 k3 a0 a1 a2 l3 x9_2 x10_2 (Int.tmod (wrap64 (x11_3 + (wrap64 ((Int.tmod t107 1073741789) * (Int.tmod (wrap64 (x12_3 * x10_2)) 1073741789))))) 1073741789) (Int.tmod (wrap64 (x12_3 * x10_2)) 1073741789) (wrap64 (x13_3 + 1))) = some r := H
                    have A15 := Aside0.mk A150
                    clear A150
                    have H' := Aside0.mk H
                    clear H
                    go_wp2_with (first | ((with_reducible refine gate_dst (N := 57) rfl ?_); (try (refine gate_guard (by rfl) ?_; dsimp only)); refine Kd.R_lit (Kd.int .u8) _ 5 ?hg (N := 57) ?hd (xs := ([(x13_3) % 256] : List Int)) (inner := [.int .u8 ((x13_3) % 256)]) (ok := fun _ => True) (okp := fun _ => True) ?hr ?hp (fun _ hk => hk) trivial (Below.refl _ _) (Nat.le_refl _) (by simp) ?_; (case hd => rfl); (case hg => rfl); (case hr => first | (go_simp; done) | (go_simp; rfl)); (case hp => exact (Reps.one (show Kd.M (Kd.int .u8) _ _ _ ((x13_3) % 256) [.int .u8 ((x13_3) % 256)] from rfl) (Reps.none _ _))); intro v102 w16 ho17 hb hg_ hnew_; clear hg_ hnew_; (first | rw [← Ny101.out] at ho17 | (simp only [Int.reduceToNat] at ho17; rw [← Ny101.out] at ho17)); have n0_ := Aside0.mk (Kd.R_below (by (with_reducible repeat (first | apply Kd.R_alloc | apply Kd.R_drewN | apply Kd.R_drew)); exact HO_9.out) hb); have n1_ := Aside0.mk (Kd.R_lower ho17 (below_size (by repeat (first | (with_reducible first | exact HB.out | apply below_alloc | apply pw_below_drewN | apply below_drew1) | exact HB.out)))); have n2_ := Aside0.mk (below_step (by repeat (first | (with_reducible first | exact HB.out | apply below_alloc | apply pw_below_drewN | apply below_drew1) | exact HB.out)) hb); clear HO_9; clear HB; have HO_9 := n0_; have HO103 := n1_; have HB := n2_; clear n0_ n1_ n2_; clear hb ho17; obtain ⟨Ao18, co18, eo18⟩ := Kd.R_slice HO103.out; subst eo18) | ((with_reducible refine gate_callee (f := 86) rfl ?_); refine goesL_ (some 58) rfl rfl Try.func86 (by kernel_rfl) rfl #[.slice A3 l3.length c3, .slice Ao18 y101.length co18] rfl (by (try simp only [List.map_toArray, List.map_cons, List.map_nil]); first | done | rfl | (simp only [List.length_drop, List.length_take]; rfl)) ?_; (with_reducible refine (spec_l2Mac.calls k3 _ _ l3 _ _ y101 t104 _ ?side1 ?side2 ?side3 ?side4 A14.out).mono ?_); (case side1 => repeat (first | exact (Kd.C_below HR3.out HB.out) | (with_reducible refine Kd.C_alloc ?_ _) | (with_reducible refine Kd.C_drewN ?_ _) | (with_reducible refine Kd.C_drew ?_))); (case side2 => exact HC3.out); (case side3 => repeat (first | exact (Kd.R_reads' HO103.out).2.2 | (with_reducible refine Kd.C_alloc ?_ _) | (with_reducible refine Kd.C_drewN ?_ _) | (with_reducible refine Kd.C_drew ?_))); (case side4 => exact (Kd.R_reads' HO103.out).2.1); rintro e w19 ⟨v105, rfl, ho0, hb⟩; refine ⟨_, rfl, ?_⟩; have n0_ := Aside0.mk (Kd.R_below (by (with_reducible repeat (first | apply Kd.R_alloc | apply Kd.R_drewN | apply Kd.R_drew)); exact HO_9.out) hb); have n1_ := Aside0.mk (Kd.R_elder' (by (with_reducible repeat (first | apply Kd.R_alloc | apply Kd.R_drewN | apply Kd.R_drew)); exact HO103.out) (Kd.R_base ho0) hb); have n2_ := Aside0.mk (Kd.R_lower (Kd.R_new' ho0 (Kd.R_lt (by (with_reducible repeat (first | apply Kd.R_alloc | apply Kd.R_drewN | apply Kd.R_drew)); exact HO103.out))) (below_size (by repeat (first | (with_reducible first | exact HB.out | apply below_alloc | apply pw_below_drewN | apply below_drew1) | exact HB.out)))); have n3_ := Aside0.mk (below_step (by repeat (first | (with_reducible first | exact HB.out | apply below_alloc | apply pw_below_drewN | apply below_drew1) | exact HB.out)) hb); clear HO_9; clear HO103; clear HB; have HO_9 := n0_; have HO103 := n1_; have HO106 := n2_; have HB := n3_; clear n0_ n1_ n2_ n3_; (try clear hb); (try clear hb2); (try clear hk); (try clear hi); (try clear ho0); obtain ⟨Ao20, co20, eo20⟩ := Kd.R_slice HO106.out; subst eo20) | ((with_reducible refine gate_callee (f := 85) rfl ?_); refine goesL_ (some 59) rfl rfl Try.func85 (by kernel_rfl) rfl #[.slice Ao20 t104.length co20] rfl (by (try simp only [List.map_toArray, List.map_cons, List.map_nil]); first | done | rfl | (simp only [List.length_drop, List.length_take]; rfl)) ?_; (with_reducible refine (spec_l2Number.calls k3 _ _ t104 t107 _ ?side1 ?side2 A15.out).mono ?_); (case side1 => repeat (first | exact (Kd.R_reads' HO106.out).2.2 | (with_reducible refine Kd.C_alloc ?_ _) | (with_reducible refine Kd.C_drewN ?_ _) | (with_reducible refine Kd.C_drew ?_))); (case side2 => exact (Kd.R_reads' HO106.out).2.1); rintro e w' ⟨rfl, ⟨nd, rfl⟩⟩; refine ⟨_, rfl, ?_⟩))
                    go_roundg k3
                    case measure => have := HJ4.out; have := HK2.out; have := HK3.out; omega
                    case rel => exact ⟨(Int.tmod (wrap64 (x11_3 + (wrap64 ((Int.tmod t107 1073741789) * (Int.tmod (wrap64 (x12_3 * x10_2)) 1073741789))))) 1073741789), (Int.tmod (wrap64 (x12_3 * x10_2)) 1073741789), (wrap64 (x13_3 + 1)), (by first | rfl | (simp; done) | (simp [*]; done)), (by first | rfl | (simp; done) | (simp [*]; done)), (by first | rfl | (simp; done) | (simp [*]; done)), H', ⟨by have := HJ4.out; have := HK2.out; have := HK3.out; omega⟩, ⟨by (with_reducible repeat (first | apply Kd.R_alloc | apply Kd.R_drewN | apply Kd.R_drew)); exact HO_9.out⟩, ⟨by repeat (first | (with_reducible first | exact HB.out | apply below_alloc | apply pw_below_drewN | apply below_drew1) | exact HB.out)⟩⟩
                  · rw [if_neg c13] at H
                    have c13b0 : decide (x13_3 < a2) = false := decide_eq_false c13
                    clear c13
                    by_cases c21 : x9_2.length < 8796093022208
                    · rw [if_pos c21] at H
                      have LMc21 := Aside0.mk c21
                      clear c21
                      obtain ⟨y108, hy108⟩ : ∃ y_ : List (S51), y_ = (x9_2 ++ [(⟨x10_2, x11_3⟩ : S51)]) := ⟨_, rfl⟩
                      replace H : (spec_Split.l0 k3 a0 a1 a2 l3 y108 (wrap64 (x10_2 + 1))) = some r := by first | (rw [hy108]; with_reducible exact H) | (have H2_ := (Option.bind_some _ _).symm.trans H; rw [hy108]; with_reducible exact H2_) | (have H2_ := (Option.bind_some _ _).symm.trans H; with_reducible exact H2_) | with_reducible exact H | (rw [hy108]; exact H) | exact H
                      have Ny108 := Aside0.mk hy108
                      clear hy108
                      have H' := Aside0.mk H
                      clear H
                      go_wp2_with (first | ((with_reducible refine gate_builtin (b := .append) (xs := #[.tmp 65, .tmp 69]) rfl ?_); (try (refine gate_guard (by rfl) ?_; dsimp only)); at_builtin; refine Kd.R_append k51 (w0 := w) w.heap.size rfl (.tmp 65) (.tmp 69) 48 51 (.agg #[(.int .i64 0), (.int .i64 0)]) 16 rfl Try.underlying48 info51 rfl (by decide) (by omega) u9 x9_2 (⟨x10_2, x11_3⟩ : S51) [.int .i64 x10_2, .int .i64 x11_3] (fun _ => True) (fun _ => False) rfl rfl ?aP (fun _ hk => hk.elim) ?aF ?aO ?aB ?aS ?aL ?_; (case aP => exact k51_mkM _ _ _ (⟨x10_2, x11_3⟩ : S51)); (case aB => exact (by repeat (first | (with_reducible first | exact HB.out | apply below_alloc | apply pw_below_drewN | apply below_drew1) | exact HB.out))); (case aF => exact (fun _ _ => trivial)); (case aO => exact (by (with_reducible repeat (first | apply Kd.R_alloc | apply Kd.R_drewN | apply Kd.R_drew)); exact HO_9.out)); (case aS => exact (below_size (by repeat (first | (with_reducible first | exact HB.out | apply below_alloc | apply pw_below_drewN | apply below_drew1) | exact HB.out)))); (case aL => have := LMc21.out; omega); intro v109 w22 ho hb hg hat; rw [← Ny108.out] at ho; have n0_ := Aside0.mk (hb); have n1_ := Aside0.mk (ho); clear HB; clear HO_9; have HB := n0_; have HO110 := n1_; clear n0_ n1_; clear ho hb hg hat))
                      go_roundg k3
                      case measure => have := HJ4.out; have := HK2.out; have := HK3.out; omega
                      case rel => exact ⟨(y108), (wrap64 (x10_2 + 1)), (by first | rfl | (simp; done) | (simp [*]; done)), H', ⟨by have := HJ4.out; have := HK2.out; have := HK3.out; omega⟩, ⟨by (with_reducible repeat (first | apply Kd.R_alloc | apply Kd.R_drewN | apply Kd.R_drew)); exact HO110.out⟩, ⟨by repeat (first | (with_reducible first | exact HB.out | apply below_alloc | apply pw_below_drewN | apply below_drew1) | exact HB.out)⟩⟩
                    · rw [if_neg c21] at H
                      exact absurd H (by simp)
            · rw [if_neg c12] at H
              have c12b0 : decide (x10_2 ≤ a1) = false := decide_eq_false c12
              clear c12
              obtain rfl := Option.some.inj H
              go_wp2
              go_ret
              exact ⟨_, by first | rfl | (simp [errW_none, errW_some] <;> rfl) | (simp [*, errW_none, errW_some] <;> rfl), by (with_reducible repeat (first | apply Kd.R_alloc | apply Kd.R_drewN | apply Kd.R_drew)); exact HO_9.out, by repeat (first | (with_reducible first | exact HB.out | apply below_alloc | apply pw_below_drewN | apply below_drew1) | exact HB.out)⟩
end Go.Proofs.Ytccbjchlcelkgaa.Pr
namespace Go.Proofs.Ytccbjchlcelkgaa.Pr
open Go.RowKit Go.Proofs.YtccbjchlcelkgaaW.PrintWords Go.Proofs.YtccbjchlcelkgaaW.PrintLast Go.Proofs.YtccbjchlcelkgaaW.PrintMore
set_option linter.unusedVariables false
set_option linter.unusedSimpArgs false
theorem bool_elem_inv {H : Type} {P : Program} {e : TypeId} (he : P.underlying e = some .bool) {v : Value} {z : DataW H × List MemPlace} (h : plainElem P e v = some z) : ∃ a, v = .bool a ∧ z = (.lit (.bool a), []) := by
  unfold plainElem at h
  rw [he] at h
  split at h
  · cases h; exact ⟨_, rfl, rfl⟩
  · exact absurd ‹some TypeDesc.bool = some _› (by simp)
  · exact absurd ‹some TypeDesc.bool = some _› (by simp)
  · cases h
theorem wpList_lookup_bool {H : Type} {P : Program} (w : World) {ops : Array Oper} {rest : List Oper} {o : Oper} {a : Act} {Q : Exit → Act → World → Prop}
    (hg : o.guard = none) (m x : Operand) (t : TypeId) (hop : o.op = Op.lookup t m x false)
    (k e : TypeId) (K : Maps.Keyed P k) (ht : P.underlying t = some (.map k e)) (he : P.underlying e = some .bool) (hz : (zeroValue e).run P w = .ok (.bool false) w) (b n : Nat) (D : DataW H)
    (hm : a.eval m = .map (some b)) (hown : w.ownsMap P k (plainElem P e) b n D) (key : Value) (kl : Lit) (hx : a.eval x = key) (hkey : keyOf P k key = some kl)
    (hK : ∀ c : Bool, D.atKey kl (.lit (.bool false)) = .lit (.bool c) → wpList P ops Q rest (a.put o.dst (.bool c)) w) :
    wpList P ops Q (o :: rest) a w := by
  refine wpList_plain hg fun K' hK' => ?_
  obtain ⟨v, ps, hrun, hv⟩ := hown.lookup K ht hz (plainElem_bool he false) hkey
  obtain ⟨c, rfl, hc⟩ := bool_elem_inv he hv
  simp only [Prod.mk.injEq] at hc
  unfold Oper.wp
  simp [execOp, hop, hm, hx, hrun, Result.andThen]
  exact hK' _ _ (hK c hc.1)
structure Seen (W : World) (b n : Nat) (xs : List Int) : Prop where
  has : ∃ D : DataW Unit, W.ownsMap Try.prog 3 (plainElem Try.prog 4) b n D ∧ Maps.IsMap D ∧ ∀ x : Int, D.atKey (.int .i64 x) (.lit (.bool false)) = .lit (.bool (xs.contains x))
theorem Seen.made (w : World) : Seen (w.alloc (.map #[] 0)) w.heap.size 0 [] := ⟨⟨.map [], World.ownsMap_made _ _ _ _, Maps.isMap_empty, fun x => rfl⟩⟩
theorem Seen.block {W W' : World} {b n : Nat} {xs : List Int} (h : Seen W b n xs) (hb : W'.heap[b]? = W.heap[b]?) : Seen W' b n xs := by
  obtain ⟨⟨D, ⟨es, clock, h1, h2, h3, h4⟩, hm, hx⟩⟩ := h
  exact ⟨⟨D, ⟨es, clock, hb.trans h1, h2, h3, h4⟩, hm, hx⟩⟩
theorem Seen.lt {W : World} {b n : Nat} {xs : List Int} (h : Seen W b n xs) : b < W.heap.size := by
  obtain ⟨⟨D, h1, _⟩⟩ := h
  exact h1.lt
theorem Seen.below {W W' : World} {b n : Nat} {xs : List Int} (h : Seen W b n xs) (hb : Below W.heap.size W W') : Seen W' b n xs := h.block (hb.block b h.lt)
theorem Seen.set {W : World} {b n : Nat} {xs : List Int} (h : Seen W b n xs) {p : Addr} (hne : b ≠ p.block) (u : Value) : Seen (W.setCell p u) b n xs := h.block (Below.heap_setCell W p u b hne)
theorem Seen.put {W : World} {D : DataW Unit} {b n : Nat} {xs : List Int} {x : Int} (hm : Maps.IsMap D) (hx : ∀ y : Int, D.atKey (.int .i64 y) (.lit (.bool false)) = .lit (.bool (xs.contains y)))
    (h : W.ownsMap Try.prog 3 (plainElem Try.prog 4) b n (D.put (.int .i64 x) (.lit (.bool true)))) : Seen W b n (xs ++ [x]) := by
  refine ⟨⟨_, h, hm.put _ _, fun y => ?_⟩⟩
  by_cases hy : y = x
  · subst hy
    rw [Maps.atKey_put_same hm (by trivial)]
    simp
  · rw [Maps.atKey_put_other (by intro e; injection e with e1 e2; exact hy e2), hx y]
    simp [hy]
theorem key_of (x : Int) (h : -9223372036854775808 ≤ x ∧ x ≤ 9223372036854775807) : keyOf Try.prog 3 (.int .i64 x) = some (.int .i64 x) := by
  have hw : (Lit.int .i64 x).wf = true := by
    show (decide (IntKind.i64.min ≤ x) && decide (x ≤ IntKind.i64.max)) = true
    rw [show IntKind.i64.min = -9223372036854775808 from by decide, show IntKind.i64.max = 9223372036854775807 from by decide, decide_eq_true h.1, decide_eq_true h.2]
    rfl
  unfold keyOf mapKey
  simp [Try.underlying3, hw]
theorem seen_lookup (w : World) {ops : Array Oper} {rest : List Oper} {o : Oper} {a : Act} {Q : Exit → Act → World → Prop} (hg : o.guard = none) (m x : Operand) (hop : o.op = Op.lookup 109 m x false) (b n : Nat) (xs : List Int)
    (hm : a.eval m = .map (some b)) (hS : Seen w b n xs) (X : Int) (hX : -9223372036854775808 ≤ X ∧ X ≤ 9223372036854775807) (hx : a.eval x = .int .i64 X) (h : wpList Try.prog ops Q rest (a.put o.dst (.bool (xs.contains X))) w) :
    wpList Try.prog ops Q (o :: rest) a w := by
  obtain ⟨⟨D, hown, _, hx2⟩⟩ := hS
  refine wpList_lookup_bool w hg m x 109 hop 3 4 (Maps.int_keyed Try.underlying3) Try.underlying109 Try.underlying4 (by kernel_rfl) b n D hm hown _ (.int .i64 X) hx (key_of X hX) ?_
  intro c hc
  rw [hx2 X] at hc
  injection hc with hc
  injection hc with hc
  rw [← hc]
  exact h
theorem seen_update (w : World) {ops : Array Oper} {rest : List Oper} {o : Oper} {a : Act} {Q : Exit → Act → World → Prop} (hg : o.guard = none) (m x v : Operand) (hop : o.op = Op.mapUpdate 109 m x v) (b n : Nat) (hn : n < 9223372036854775807) (xs : List Int)
    (hm : a.eval m = .map (some b)) (hS : Seen w b n xs) (X : Int) (hX : -9223372036854775808 ≤ X ∧ X ≤ 9223372036854775807) (hx : a.eval x = .int .i64 X) (hv : a.eval v = .bool true)
    (h : ∀ w', Seen w' b (n + 1) (xs ++ [X]) → w.grownBy w' (some b) → wpList Try.prog ops Q rest (a.put o.dst undef) w') :
    wpList Try.prog ops Q (o :: rest) a w := by
  obtain ⟨⟨D, hown, hm2, hx2⟩⟩ := hS
  exact wpList_mapUpdate_own w hg m x v 109 hop 3 4 (Maps.int_keyed Try.underlying3) Try.underlying109 (plainElem Try.prog 4) b n D hm hown (by unfold maxLen; exact hn) _ _ (.int .i64 X) hx hv (key_of X hX) (.lit (.bool true)) [] (plainElem_bool Try.underlying4 true)
    (fun w' h1 h2 => h w' (Seen.put hm2 hx2 h1) h2)
abbrev ShareS := S51
def okJ (l : List ShareS) (i : Nat) : Bool := decide (1 ≤ (rd_T51 l i).f0) && (decide ((rd_T51 l i).f0 < 1073741789) && (decide (0 ≤ (rd_T51 l i).f1) && (decide ((rd_T51 l i).f1 < 1073741789) && !((l.take i).map (·.f0)).contains (rd_T51 l i).f0)))
def goodJ (l : List ShareS) : Nat → Bool
  | 0 => true
  | i + 1 => goodJ l i && okJ l i
def badJ (l : List ShareS) : Bool := !goodJ l l.length
theorem goodJ_bad {l : List ShareS} {i : Nat} (h : okJ l i = false) : ∀ n, i < n → goodJ l n = false
  | 0, h2 => absurd h2 (Nat.not_lt_zero i)
  | n + 1, h2 => by
    unfold goodJ
    by_cases e : i = n
    · rw [← e, h, Bool.and_false]
    · rw [goodJ_bad h n (by omega), Bool.false_and]
end Go.Proofs.Ytccbjchlcelkgaa.Pr
namespace Go.Proofs.Ytccbjchlcelkgaa.Pr
open Go.RowKit Go.Proofs.YtccbjchlcelkgaaW.PrintWords Go.Proofs.YtccbjchlcelkgaaW.PrintLast Go.Proofs.YtccbjchlcelkgaaW.PrintMore
attribute [local go_sem] max2_int min2_int max_two min_two max_three min_three max_four min_four
set_option linter.unusedVariables false
set_option linter.unusedSimpArgs false
def impl_ypow.l0 : Nat → Int → Int → Int → Int → Option (Int)
  | 0, _, _, _, _ => none
  | k + 1, x0, x1, x2, x7 => if x1 > 0 then (if (Go.bits .and .i64 x1 1) = 1 then (if x2 = 0 then (none) else (impl_ypow.l0 k (Int.tmod (wrap64 (x0 * x0)) x2) (x1 / 2) x2 (Int.tmod (wrap64 (x7 * x0)) x2))) else (if x2 = 0 then (none) else (impl_ypow.l0 k (Int.tmod (wrap64 (x0 * x0)) x2) (x1 / 2) x2 x7))) else (some x7)
def impl_ypow.f (k : Nat) (a0 : Int) (a1 : Int) (a2 : Int) : Option (Int) := if a2 = 0 then (none) else (impl_ypow.l0 k (Int.tmod a0 a2) a1 a2 1)
set_option maxHeartbeats 8000000 in
set_option maxRecDepth 100000 in
theorem impl_ypow.calls (k : Nat) (a0 : Int) (a1 : Int) (a2 : Int) (r : Int) (w : World) (h : impl_ypow.f k a0 a1 a2 = some r) :
    Calls Try.prog 80 #[.int .i64 a0, .int .i64 a1, .int .i64 a2] w fun e w' => e = .returned (.int .i64 r) ∧ Drawn0 w w' := by
  have H : (if a2 = 0 then (none) else (impl_ypow.l0 k (Int.tmod a0 a2) a1 a2 1)) = some r := h
  clear h
  by_cases c4 : a2 = 0
  · rw [if_pos c4] at H
    exact absurd H (by simp)
  · rw [if_neg c4] at H
    have c4b0 : (a2 == 0) = false := beq_eq_false_iff_ne.mpr c4
    have c4b1 : (a2 != 0) = true := bne_iff_ne.mpr c4
    have H' := Aside0.mk H
    clear H
    go_enter Try.func80, Try.ntmps80
    go_wp2
    go_loopg [0, 1, 7] k (fun kq v0 v1 v7 w' => ∃ (x0_1 : Int) (x1_1 : Int) (x7_1 : Int), v0 = .int .i64 x0_1 ∧ v1 = .int .i64 x1_1 ∧ v7 = .int .i64 x7_1 ∧ Aside0 (impl_ypow.l0 kq x0_1 x1_1 a2 x7_1 = some r) ∧ Aside0 (kq ≤ k) ∧ Drawn0 w w')
    case atStart => exact ⟨(Int.tmod a0 a2), (a1), (1), (by first | rfl | (simp; done) | (simp [*]; done)), (by first | rfl | (simp; done) | (simp [*]; done)), (by first | rfl | (simp; done) | (simp [*]; done)), H', ⟨Nat.le_refl _⟩, by repeat (first | exact Drawn0.refl _ | apply Drawn0.step)⟩
    case round =>
      clear H'
      try clear p2
      try clear c4
      try clear c4b0
      try clear c4b1
      obtain ⟨x0_1, x1_1, x7_1, rfl, rfl, rfl, HA, HK1, ⟨m1, rfl⟩⟩ := hrel
      cases gk with
      | zero => exact absurd HA.out (by simp [impl_ypow.l0])
      | succ k1 =>
        have H := HA.out
        clear HA
        simp only [impl_ypow.l0] at H
        by_cases c5 : x1_1 > 0
        · rw [if_pos c5] at H
          have c5b0 : decide (0 < x1_1) = true := decide_eq_true c5
          clear c5
          by_cases c6 : (Go.bits .and .i64 x1_1 1) = 1
          · rw [if_pos c6] at H
            have c6b0 : ((Go.bits .and .i64 x1_1 1) == 1) = true := beq_iff_eq.mpr c6
            have c6b1 : ((Go.bits .and .i64 x1_1 1) != 1) = false := bne_eq_false_iff_eq.mpr c6
            clear c6
            by_cases c7 : a2 = 0
            · rw [if_pos c7] at H
              exact absurd H (by simp)
            · rw [if_neg c7] at H
              have c7b0 : (a2 == 0) = false := beq_eq_false_iff_ne.mpr c7
              have c7b1 : (a2 != 0) = true := bne_iff_ne.mpr c7
              have H' := Aside0.mk H
              clear H
              go_wp2
              go_roundg k1
              case measure => have := HK1.out; omega
              case rel => exact ⟨(Int.tmod (wrap64 (x0_1 * x0_1)) a2), (x1_1 / 2), (Int.tmod (wrap64 (x7_1 * x0_1)) a2), (by first | rfl | (simp; done) | (simp [*]; done)), (by first | rfl | (simp; done) | (simp [*]; done)), (by first | rfl | (simp; done) | (simp [*]; done)), H', ⟨by have := HK1.out; omega⟩, by repeat (first | exact Drawn0.refl _ | apply Drawn0.step)⟩
          · rw [if_neg c6] at H
            have c6b0 : ((Go.bits .and .i64 x1_1 1) == 1) = false := beq_eq_false_iff_ne.mpr c6
            have c6b1 : ((Go.bits .and .i64 x1_1 1) != 1) = true := bne_iff_ne.mpr c6
            by_cases c8 : a2 = 0
            · rw [if_pos c8] at H
              exact absurd H (by simp)
            · rw [if_neg c8] at H
              have c8b0 : (a2 == 0) = false := beq_eq_false_iff_ne.mpr c8
              have c8b1 : (a2 != 0) = true := bne_iff_ne.mpr c8
              have H' := Aside0.mk H
              clear H
              go_wp2
              go_roundg k1
              case measure => have := HK1.out; omega
              case rel => exact ⟨(Int.tmod (wrap64 (x0_1 * x0_1)) a2), (x1_1 / 2), (x7_1), (by first | rfl | (simp; done) | (simp [*]; done)), (by first | rfl | (simp; done) | (simp [*]; done)), (by first | rfl | (simp; done) | (simp [*]; done)), H', ⟨by have := HK1.out; omega⟩, by repeat (first | exact Drawn0.refl _ | apply Drawn0.step)⟩
        · rw [if_neg c5] at H
          have c5b0 : decide (0 < x1_1) = false := decide_eq_false c5
          clear c5
          obtain rfl := Option.some.inj H
          go_wp2
          go_ret
          exact ⟨by first | rfl | (simp; done) | (simp [*]; done), by repeat (first | exact Drawn0.refl _ | apply Drawn0.step)⟩
end Go.Proofs.Ytccbjchlcelkgaa.Pr
namespace Go.Proofs.Ytccbjchlcelkgaa.Pr
open Go.RowKit Go.Proofs.YtccbjchlcelkgaaW.PrintWords Go.Proofs.YtccbjchlcelkgaaW.PrintLast Go.Proofs.YtccbjchlcelkgaaW.PrintMore
attribute [local go_sem] max2_int min2_int max_two min_two max_three min_three max_four min_four
set_option linter.unusedVariables false
set_option linter.unusedSimpArgs false
mutual
def impl_Join.j0 : Nat → List (S51) → Bool → Option (Int × Bool)
  | 0, _, _ => none
  | k + 1, x0, x21 => if x21 = true then (some (0, false)) else (if badJ x0 = true then (some (0, false)) else (impl_Join.l0 k x0 0 x0 (x0.length : Int) 0))
def impl_Join.l0 : Nat → List (S51) → Int → List (S51) → Int → Int → Option (Int × Bool)
  | 0, _, _, _, _, _ => none
  | k + 1, x0, x7, x57, x58, x59 => if x59 < x58 then (if 0 ≤ x59 then (if x59 < (x57.length : Int) then (impl_Join.l1 k x0 x7 x59 ((rd_T51 x57 x59).f1) 1 x57 x58 x59 x0 (x0.length : Int) 0 ((rd_T51 x57 x59).f0) ((rd_T51 x57 x59).f1)) else (none)) else (none)) else (some (x7, true))
def impl_Join.l1 : Nat → List (S51) → Int → Int → Int → Int → List (S51) → Int → Int → List (S51) → Int → Int → Int → Int → Option (Int × Bool)
  | 0, _, _, _, _, _, _, _, _, _, _, _, _, _ => none
  | k + 1, x0, x7, x8, x10, x11, x57, x58, x59, x66, x67, x68, x103000, x103001 => if x68 < x67 then (if 0 ≤ x68 then (if x68 < (x66.length : Int) then (if x68 = x8 then (impl_Join.l1 k x0 x7 x8 x10 x11 x57 x58 x59 x66 x67 (wrap64 (x68 + 1)) x103000 x103001) else (impl_Join.l1 k x0 x7 x8 (Int.tmod (wrap64 (x10 * ((rd_T51 x66 x68).f0))) 1073741789) (Int.tmod (wrap64 (x11 * (Int.tmod (wrap64 ((wrap64 (((rd_T51 x66 x68).f0) - x103000)) + 1073741789)) 1073741789))) 1073741789) x57 x58 x59 x66 x67 (wrap64 (x68 + 1)) x103000 x103001)) else (none)) else (none)) else ((impl_ypow.f k x11 1073741787 1073741789).bind fun t105 => (impl_Join.l0 k x0 (Int.tmod (wrap64 (x7 + (wrap64 (x10 * t105)))) 1073741789) x57 x58 (wrap64 (x59 + 1))))
end
def impl_Join.f (k : Nat) (l0 : List (S51)) : Option (Int × Bool) := if (l0.length : Int) < 1 then (impl_Join.j0 k l0 true) else (impl_Join.j0 k l0 (decide ((l0.length : Int) > 20)))
set_option maxHeartbeats 8000000 in
set_option maxRecDepth 100000 in
theorem impl_Join.calls (k : Nat) (A0 : Option Addr) (c0 : Nat) (l0 : List (S51)) (r1 : Int) (r2 : Bool) (w : World) (hr0 : Kd.C k51 w A0 l0.length l0) (hc0 : l0.length ≤ c0) (h : impl_Join.f k l0 = some (r1, r2)) :
    Calls Try.prog 35 #[.slice A0 l0.length c0] w fun e w' => e = .returned (.tuple #[.int .i64 r1, .bool r2]) ∧ Below w.heap.size w w' := by
  have hu51 := Try.underlying51
  have HR0 := Aside0.mk hr0
  have HC0 := Aside0.mk hc0
  clear hr0 hc0
  have HB := Aside0.mk (Below.refl w.heap.size w)
  have H : (if (l0.length : Int) < 1 then (impl_Join.j0 k l0 true) else (impl_Join.j0 k l0 (decide ((l0.length : Int) > 20)))) = some (r1, r2) := h
  clear h
  have HC2 := Aside0.mk H
  clear H
  go_enter Try.func35, Try.ntmps35
  go_upto_region 1 with (fail)
  go_cut [21] (fun v21 wc => ∃ (kq : Nat) (x21_1 : Bool), v21 = .bool x21_1 ∧ Aside0 (impl_Join.j0 kq l0 x21_1 = some (r1, r2)) ∧ Aside0 (kq ≤ k) ∧ Aside0 (Below w.heap.size w wc))
  case first =>
    have H := HC2.out
    clear HC2
    by_cases c3 : (l0.length : Int) < 1
    · rw [if_pos c3] at H
      have c3b0 : decide ((l0.length : Int) < 1) = true := decide_eq_true c3
      have c3b1 : decide (l0.length < 1) = true := decide_eq_true (by omega)
      clear c3
      (first | rw [c3b0] | (simp only [i64_w, i32_w]; rw [c3b0]) | skip)
      have H' := Aside0.mk H
      clear H
      go_wp2
      go_meet
      case rel => exact ⟨_, (true), (by first | rfl | (simp; done) | (simp [*]; done)), H', ⟨by first | omega | exact Nat.le_refl _⟩, ⟨by repeat (first | (with_reducible first | exact HB.out | apply below_alloc | apply pw_below_drewN | apply below_drew1) | exact HB.out)⟩⟩
    · rw [if_neg c3] at H
      have c3b0 : decide ((l0.length : Int) < 1) = false := decide_eq_false c3
      have c3b1 : decide (l0.length < 1) = false := decide_eq_false (by omega)
      clear c3
      (first | rw [c3b0] | (simp only [i64_w, i32_w]; rw [c3b0]) | skip)
      have H' := Aside0.mk H
      clear H
      go_wp2
      go_meet
      case rel => exact ⟨_, (decide ((l0.length : Int) > 20)), (by first | rfl | (simp; done) | (simp [*]; done)), H', ⟨by first | omega | exact Nat.le_refl _⟩, ⟨by repeat (first | (with_reducible first | exact HB.out | apply below_alloc | apply pw_below_drewN | apply below_drew1) | exact HB.out)⟩⟩
  case rest =>
    clear HC2
    try clear p2
    try clear c3
    try clear c3b0
    try clear c3b1
    obtain ⟨kq, x21_1, rfl, HA, HJ1, HB⟩ := hcut
    cases kq with
    | zero => exact absurd HA.out (by simp [impl_Join.j0])
    | succ kj1 =>
      have H := HA.out
      clear HA
      simp only [impl_Join.j0] at H
      by_cases c4 : x21_1 = true
      · subst c4
        have H1 : (some (0, false)) = some (r1, r2) := by rw [if_pos rfl] at H; exact H
        clear H
        have H := H1
        clear H1
        simp only [Option.some.injEq, Prod.mk.injEq] at H
        obtain ⟨rfl, rfl⟩ := H
        go_wp2
        go_ret2
        exact ⟨by first | rfl | (simp [errW_none, errW_some] <;> rfl) | (simp [*, errW_none, errW_some] <;> rfl), by repeat (first | (with_reducible first | exact HB.out | apply below_alloc | apply pw_below_drewN | apply below_drew1) | exact HB.out)⟩
      · replace c4 := Bool.eq_false_iff.mpr c4
        subst c4
        have H1 : (if badJ l0 = true then (some (0, false)) else (impl_Join.l0 kj1 l0 0 l0 (l0.length : Int) 0)) = some (r1, r2) := by rw [if_neg (show ¬ (false = true) by decide)] at H; exact H
        clear H
        have HJ := Aside0.mk H1
        clear H1
        have HLEN := Aside0.mk (Kd.C_max HR0.out)
        have hmm := @run_makeMap Try.prog
        go_wp2
        clear hmm
        go_loopw [25] (fun v25 W => ∃ i : Nat, i ≤ l0.length ∧ v25 = .int .i64 i ∧ Aside0 (goodJ l0 i = true ∧ Seen W wc.heap.size i ((l0.take i).map (·.f0)) ∧ Below w.heap.size w W)) (fun v25 _ => l0.length - (intOf v25).toNat)
        case atStart => exact ⟨0, by omega, rfl, ⟨rfl, Seen.made _, below_alloc HB.out _⟩⟩
        case round =>
          obtain ⟨i, hi, rfl, HS⟩ := hrel
          have hmax := HLEN.out
          by_cases hlt : i < l0.length
          · have p0 : 0 ≤ (i : Int) := Int.natCast_nonneg i
            have q0 : (i : Int) < (l0.length : Int) := by omega
            obtain ⟨ad, e, hx0, hx1⟩ := at_T51 HR0.out (i : Int) p0 q0
            cases e
            replace hx0 := (HS.out.2.2.cell (World.block_lt_of_cell? w _ hx0)).trans hx0
            replace hx1 := (HS.out.2.2.cell (World.block_lt_of_cell? w _ hx1)).trans hx1
            simp only [Int.toNat_natCast] at hx0 hx1
            obtain ⟨X, hX⟩ : ∃ X, X = (rd_T51 l0 (i : Int)).f0 := ⟨_, rfl⟩
            obtain ⟨Y, hY⟩ : ∃ Y, Y = (rd_T51 l0 (i : Int)).f1 := ⟨_, rfl⟩
            obtain ⟨xs, hxs⟩ : ∃ xs, xs = (l0.take i).map (·.f0) := ⟨_, rfl⟩
            have HK : Aside0 (okJ l0 i = (decide (1 ≤ X) && (decide (X < 1073741789) && (decide (0 ≤ Y) && (decide (Y < 1073741789) && !xs.contains X))))) := ⟨by rw [hX, hY, hxs]; rfl⟩
            have HX := Aside0.mk (And.intro hX hxs)
            rw [← hX] at hx0
            rw [← hY] at hx1
            rw [← hxs] at HS
            clear hX hY hxs
            have HLT := Aside0.mk hlt
            have HJB : Aside0 (okJ l0 i = false → r1 = 0 ∧ r2 = false) := ⟨fun hb => by have h := HJ.out; rw [if_pos (show badJ l0 = true by unfold badJ; rw [goodJ_bad hb _ hlt]; rfl)] at h; simp only [Option.some.injEq, Prod.mk.injEq] at h; exact ⟨h.1.symm, h.2.symm⟩⟩
            by_cases h1 : X < 1
            · have HG := Aside0.mk (HJB.out (by rw [HK.out, decide_eq_false (show ¬ 1 ≤ X by omega), Bool.false_and]))
              have b1 : decide (X < 1) = true := decide_eq_true h1
              clear h1
              obtain ⟨rfl, rfl⟩ := HG.out
              go_wp2_with (first | ((with_reducible refine gate_dst (N := 6) rfl ?_); (try (refine gate_guard (by rfl) ?_; dsimp only)); refine box_event ?hg (N := 6) ?hd (cs := #[.int .i64 0, .int .i64 0]) (t := 51) ?hr ?_; (case hd => rfl); (case hg => rfl); (case hr => first | (go_simp; done) | (go_simp; rfl)); intro gb hg w10 hbox hb; have HB2 := Aside0.mk (below_step HS.out.2.2 hb); have BK := Aside0.mk hbox; have GE := Aside0.mk ((by rw [hg]; exact below_size HS.out.2.2) : w.heap.size ≤ gb); have NE := Aside0.mk ((by have := HS.out.2.1.lt; omega) : wc.heap.size ≠ gb); have SN := Aside0.mk (HS.out.2.1.below hb); clear hb hbox hg; have hcz_0 : w10.cell? ⟨gb, 0, none⟩ = some (.int .i64 0) := (blk_cell BK.out 0).trans rfl; have hcz_1 : w10.cell? ⟨gb, 1, none⟩ = some (.int .i64 0) := (blk_cell BK.out 1).trans rfl; have hfz_0 := blk_frozen BK.out 0; have hfz_1 := blk_frozen BK.out 1))
              go_ret2
              exact ⟨rfl, by repeat (first | exact HB2.out | refine below_set ?_ GE.out)⟩
            by_cases h2 : X ≥ 1073741789
            · have HG := Aside0.mk (HJB.out (by rw [HK.out, decide_eq_false (show ¬ X < 1073741789 by omega), Bool.false_and, Bool.and_false]))
              have b1 : decide (X < 1) = false := decide_eq_false h1
              have b2 : decide (X ≥ 1073741789) = true := decide_eq_true h2
              clear h1 h2
              obtain ⟨rfl, rfl⟩ := HG.out
              go_wp2_with (first | ((with_reducible refine gate_dst (N := 6) rfl ?_); (try (refine gate_guard (by rfl) ?_; dsimp only)); refine box_event ?hg (N := 6) ?hd (cs := #[.int .i64 0, .int .i64 0]) (t := 51) ?hr ?_; (case hd => rfl); (case hg => rfl); (case hr => first | (go_simp; done) | (go_simp; rfl)); intro gb hg w10 hbox hb; have HB2 := Aside0.mk (below_step HS.out.2.2 hb); have BK := Aside0.mk hbox; have GE := Aside0.mk ((by rw [hg]; exact below_size HS.out.2.2) : w.heap.size ≤ gb); have NE := Aside0.mk ((by have := HS.out.2.1.lt; omega) : wc.heap.size ≠ gb); have SN := Aside0.mk (HS.out.2.1.below hb); clear hb hbox hg; have hcz_0 : w10.cell? ⟨gb, 0, none⟩ = some (.int .i64 0) := (blk_cell BK.out 0).trans rfl; have hcz_1 : w10.cell? ⟨gb, 1, none⟩ = some (.int .i64 0) := (blk_cell BK.out 1).trans rfl; have hfz_0 := blk_frozen BK.out 0; have hfz_1 := blk_frozen BK.out 1))
              go_ret2
              exact ⟨rfl, by repeat (first | exact HB2.out | refine below_set ?_ GE.out)⟩
            by_cases h3 : Y < 0
            · have HG := Aside0.mk (HJB.out (by rw [HK.out, decide_eq_false (show ¬ 0 ≤ Y by omega), Bool.false_and, Bool.and_false, Bool.and_false]))
              have b1 : decide (X < 1) = false := decide_eq_false h1
              have b2 : decide (X ≥ 1073741789) = false := decide_eq_false h2
              have b3 : decide (Y < 0) = true := decide_eq_true h3
              clear h1 h2 h3
              obtain ⟨rfl, rfl⟩ := HG.out
              go_wp2_with (first | ((with_reducible refine gate_dst (N := 6) rfl ?_); (try (refine gate_guard (by rfl) ?_; dsimp only)); refine box_event ?hg (N := 6) ?hd (cs := #[.int .i64 0, .int .i64 0]) (t := 51) ?hr ?_; (case hd => rfl); (case hg => rfl); (case hr => first | (go_simp; done) | (go_simp; rfl)); intro gb hg w10 hbox hb; have HB2 := Aside0.mk (below_step HS.out.2.2 hb); have BK := Aside0.mk hbox; have GE := Aside0.mk ((by rw [hg]; exact below_size HS.out.2.2) : w.heap.size ≤ gb); have NE := Aside0.mk ((by have := HS.out.2.1.lt; omega) : wc.heap.size ≠ gb); have SN := Aside0.mk (HS.out.2.1.below hb); clear hb hbox hg; have hcz_0 : w10.cell? ⟨gb, 0, none⟩ = some (.int .i64 0) := (blk_cell BK.out 0).trans rfl; have hcz_1 : w10.cell? ⟨gb, 1, none⟩ = some (.int .i64 0) := (blk_cell BK.out 1).trans rfl; have hfz_0 := blk_frozen BK.out 0; have hfz_1 := blk_frozen BK.out 1))
              go_ret2
              exact ⟨rfl, by repeat (first | exact HB2.out | refine below_set ?_ GE.out)⟩
            by_cases h4 : Y ≥ 1073741789
            · have HG := Aside0.mk (HJB.out (by rw [HK.out, decide_eq_false (show ¬ Y < 1073741789 by omega), Bool.false_and, Bool.and_false, Bool.and_false, Bool.and_false]))
              have b1 : decide (X < 1) = false := decide_eq_false h1
              have b2 : decide (X ≥ 1073741789) = false := decide_eq_false h2
              have b3 : decide (Y < 0) = false := decide_eq_false h3
              have b4 : decide (Y ≥ 1073741789) = true := decide_eq_true h4
              clear h1 h2 h3 h4
              obtain ⟨rfl, rfl⟩ := HG.out
              go_wp2_with (first | ((with_reducible refine gate_dst (N := 6) rfl ?_); (try (refine gate_guard (by rfl) ?_; dsimp only)); refine box_event ?hg (N := 6) ?hd (cs := #[.int .i64 0, .int .i64 0]) (t := 51) ?hr ?_; (case hd => rfl); (case hg => rfl); (case hr => first | (go_simp; done) | (go_simp; rfl)); intro gb hg w10 hbox hb; have HB2 := Aside0.mk (below_step HS.out.2.2 hb); have BK := Aside0.mk hbox; have GE := Aside0.mk ((by rw [hg]; exact below_size HS.out.2.2) : w.heap.size ≤ gb); have NE := Aside0.mk ((by have := HS.out.2.1.lt; omega) : wc.heap.size ≠ gb); have SN := Aside0.mk (HS.out.2.1.below hb); clear hb hbox hg; have hcz_0 : w10.cell? ⟨gb, 0, none⟩ = some (.int .i64 0) := (blk_cell BK.out 0).trans rfl; have hcz_1 : w10.cell? ⟨gb, 1, none⟩ = some (.int .i64 0) := (blk_cell BK.out 1).trans rfl; have hfz_0 := blk_frozen BK.out 0; have hfz_1 := blk_frozen BK.out 1))
              go_ret2
              exact ⟨rfl, by repeat (first | exact HB2.out | refine below_set ?_ GE.out)⟩
            have RX := Aside0.mk (show -9223372036854775808 ≤ X ∧ X ≤ 9223372036854775807 by omega)
            have HK2 : Aside0 (okJ l0 i = !xs.contains X) := ⟨by rw [HK.out, decide_eq_true (show 1 ≤ X by omega), decide_eq_true (show X < 1073741789 by omega), decide_eq_true (show 0 ≤ Y by omega), decide_eq_true (show Y < 1073741789 by omega)]; rfl⟩
            have b1 : decide (X < 1) = false := decide_eq_false h1
            have b2 : decide (X ≥ 1073741789) = false := decide_eq_false h2
            have b3 : decide (Y < 0) = false := decide_eq_false h3
            have b4 : decide (Y ≥ 1073741789) = false := decide_eq_false h4
            clear h1 h2 h3 h4
            obtain ⟨cb, hcb⟩ : ∃ cb, cb = xs.contains X := ⟨_, rfl⟩
            have HC := Aside0.mk hcb.symm
            clear hcb
            cases cb with
            | true =>
              have HG := Aside0.mk (HJB.out (by rw [HK2.out, HC.out]; rfl))
              obtain ⟨rfl, rfl⟩ := HG.out
              go_wp2_with (first | ((with_reducible refine gate_dst (N := 6) rfl ?_); (try (refine gate_guard (by rfl) ?_; dsimp only)); refine box_event ?hg (N := 6) ?hd (cs := #[.int .i64 0, .int .i64 0]) (t := 51) ?hr ?_; (case hd => rfl); (case hg => rfl); (case hr => first | (go_simp; done) | (go_simp; rfl)); intro gb hg w10 hbox hb; have HB2 := Aside0.mk (below_step HS.out.2.2 hb); have BK := Aside0.mk hbox; have GE := Aside0.mk ((by rw [hg]; exact below_size HS.out.2.2) : w.heap.size ≤ gb); have NE := Aside0.mk ((by have := HS.out.2.1.lt; omega) : wc.heap.size ≠ gb); have SN := Aside0.mk (HS.out.2.1.below hb); clear hb hbox hg; have hcz_0 : w10.cell? ⟨gb, 0, none⟩ = some (.int .i64 0) := (blk_cell BK.out 0).trans rfl; have hcz_1 : w10.cell? ⟨gb, 1, none⟩ = some (.int .i64 0) := (blk_cell BK.out 1).trans rfl; have hfz_0 := blk_frozen BK.out 0; have hfz_1 := blk_frozen BK.out 1) | ((with_reducible refine gate_dst (N := 51) rfl ?_); (try (refine gate_guard (by rfl) ?_; dsimp only)); refine seen_lookup _ rfl _ _ rfl wc.heap.size i xs rfl ?ho X ?hr rfl ?_; (case ho => exact (SN.out.set (p := ⟨gb, 0, none⟩) NE.out _).set (p := ⟨gb, 1, none⟩) NE.out _); (case hr => exact RX.out); rw [HC.out]))
              go_ret2
              exact ⟨rfl, by repeat (first | exact HB2.out | refine below_set ?_ GE.out)⟩
            | false =>
              have HO := Aside0.mk (show okJ l0 i = true by rw [HK2.out, HC.out]; rfl)
              go_wp2_with (first | ((with_reducible refine gate_dst (N := 6) rfl ?_); (try (refine gate_guard (by rfl) ?_; dsimp only)); refine box_event ?hg (N := 6) ?hd (cs := #[.int .i64 0, .int .i64 0]) (t := 51) ?hr ?_; (case hd => rfl); (case hg => rfl); (case hr => first | (go_simp; done) | (go_simp; rfl)); intro gb hg w10 hbox hb; have HB2 := Aside0.mk (below_step HS.out.2.2 hb); have BK := Aside0.mk hbox; have GE := Aside0.mk ((by rw [hg]; exact below_size HS.out.2.2) : w.heap.size ≤ gb); have NE := Aside0.mk ((by have := HS.out.2.1.lt; omega) : wc.heap.size ≠ gb); have SN := Aside0.mk (HS.out.2.1.below hb); clear hb hbox hg; have hcz_0 : w10.cell? ⟨gb, 0, none⟩ = some (.int .i64 0) := (blk_cell BK.out 0).trans rfl; have hcz_1 : w10.cell? ⟨gb, 1, none⟩ = some (.int .i64 0) := (blk_cell BK.out 1).trans rfl; have hfz_0 := blk_frozen BK.out 0; have hfz_1 := blk_frozen BK.out 1) | ((with_reducible refine gate_dst (N := 51) rfl ?_); (try (refine gate_guard (by rfl) ?_; dsimp only)); refine seen_lookup _ rfl _ _ rfl wc.heap.size i xs rfl ?ho X ?hr rfl ?_; (case ho => exact (SN.out.set (p := ⟨gb, 0, none⟩) NE.out _).set (p := ⟨gb, 1, none⟩) NE.out _); (case hr => exact RX.out); rw [HC.out]) | (at_mapUpdate; refine seen_update _ rfl _ _ _ rfl wc.heap.size i (by have := HLEN.out; omega) xs rfl ?ho X ?hr rfl rfl ?_; (case ho => exact (SN.out.set (p := ⟨gb, 0, none⟩) NE.out _).set (p := ⟨gb, 1, none⟩) NE.out _); (case hr => exact RX.out); intro w11 hs hgr; have HS2 := Aside0.mk hs; have HB3 := Aside0.mk (Below.grown (by repeat (first | exact HB2.out | refine below_set ?_ GE.out)) hgr (below_size (by repeat (first | exact HB2.out | refine below_set ?_ GE.out))) (fun k e => by injection e with e; rw [← e]; exact below_size HB.out)); clear hs hgr))
              go_roundw
              case rel => exact ⟨i + 1, by have := HLT.out; omega, by go_num, ⟨by unfold goodJ; rw [HS.out.1, HO.out]; rfl, by rw [List.take_succ_eq_append_getElem hlt, List.map_append, ← HX.out.2, show List.map (·.f0) [l0[i]] = [X] from by rw [HX.out.1]; simp [rd_T51, List.getD_eq_getElem?_getD, List.getElem?_eq_getElem hlt]]; exact HS2.out, HB3.out⟩⟩
              case measure => have := HLT.out; simp [intOf]; omega
          · obtain rfl : i = l0.length := by omega
            have HBN := Aside0.mk HS.out.2.2
            clear HB
            have HB := HBN
            clear HBN
            have H' : Aside0 (impl_Join.l0 kj1 l0 0 l0 (l0.length : Int) 0 = some (r1, r2)) := ⟨by have h := HJ.out; rw [if_neg (show ¬ badJ l0 = true by unfold badJ; rw [HS.out.1]; decide)] at h; exact h⟩
            clear HJ HS hlt hi
            go_wp2
            go_loopg [7, 59] kj1 (fun kq v7 v59 w' => ∃ (x7_2 : Int) (x59_2 : Int), v7 = .int .i64 x7_2 ∧ v59 = .int .i64 x59_2 ∧ Aside0 (impl_Join.l0 kq l0 x7_2 l0 (l0.length : Int) x59_2 = some (r1, r2)) ∧ Aside0 (kq ≤ kj1) ∧ Aside0 (Below w.heap.size w w'))
            case atStart => exact ⟨(0), (0), (by first | rfl | (simp; done) | (simp [*]; done)), (by first | rfl | (simp; done) | (simp [*]; done)), H', ⟨Nat.le_refl _⟩, ⟨by repeat (first | (with_reducible first | exact HB.out | apply below_alloc | apply pw_below_drewN | apply below_drew1) | exact HB.out)⟩⟩
            case round =>
              clear H'
              try clear p2
              try clear c3
              try clear c3b0
              try clear c3b1
              try clear c4
              try clear p2
              obtain ⟨x7_2, x59_2, rfl, rfl, HA, HK2, HB⟩ := hrel
              cases gk with
              | zero => exact absurd HA.out (by simp [impl_Join.l0])
              | succ k2 =>
                have H := HA.out
                clear HA
                simp only [impl_Join.l0] at H
                by_cases c5 : x59_2 < (l0.length : Int)
                · rw [if_pos c5] at H
                  have c5b0 : decide (x59_2 < (l0.length : Int)) = true := decide_eq_true c5
                  clear c5
                  by_cases c6 : 0 ≤ x59_2
                  · rw [if_pos c6] at H
                    have c6b0 : decide (0 ≤ x59_2) = true := decide_eq_true c6
                    clear c6
                    by_cases c7 : x59_2 < (l0.length : Int)
                    · rw [if_pos c7] at H
                      have c7b0 : decide (x59_2 < (l0.length : Int)) = true := decide_eq_true c7
                      clear c7
                      have H' := Aside0.mk H
                      clear H
                      have p101 : 0 ≤ (x59_2 : Int) := of_decide_eq_true (by first | (with_reducible assumption) | assumption)
                      have q101 : x59_2 < (l0.length : Int) := of_decide_eq_true (by first | (with_reducible assumption) | assumption)
                      obtain ⟨ad101, e101, hx101_0, hx101_1⟩ := at_T51 HR0.out x59_2 p101 q101
                      cases e101
                      replace hx101_0 := (HB.out.cell (World.block_lt_of_cell? w _ hx101_0)).trans hx101_0
                      replace hx101_1 := (HB.out.cell (World.block_lt_of_cell? w _ hx101_1)).trans hx101_1
                      replace p101 := eq_true p101
                      replace q101 := eq_true q101
                      go_wp2_with (first | ((with_reducible refine gate_dst (N := 9) rfl ?_); (try (refine gate_guard (by rfl) ?_; dsimp only)); refine box_event ?hg (N := 9) ?hd (cs := #[.int .i64 0, .int .i64 0]) (t := 51) ?hr ?_; (case hd => rfl); (case hg => rfl); (case hr => first | (go_simp; done) | (go_simp; rfl)); intro gb102 hg w8 hbox hb; have n0_ := Aside0.mk (below_step (by repeat (first | (with_reducible first | exact HB.out | apply below_alloc | apply pw_below_drewN | apply below_drew1) | exact HB.out)) hb); have n1_ := Aside0.mk (hbox); have n2_ := Aside0.mk ((by rw [hg]; exact (below_size (by repeat (first | (with_reducible first | exact HB.out | apply below_alloc | apply pw_below_drewN | apply below_drew1) | exact HB.out))) : w.heap.size ≤ gb102)); have n3_ := Aside0.mk ((by rw [hg]; exact (below_size (by repeat (first | (with_reducible first | exact HB.out | apply below_alloc | apply pw_below_drewN | apply below_drew1) | exact HB.out))) : w.heap.size ≤ gb102)); clear HB; have HB := n0_; have BK102 := n1_; have GW102 := n2_; have GE102 := n3_; clear n0_ n1_ n2_ n3_; clear hb hbox hg; have hcz9_0 : w8.cell? ⟨gb102, 0, none⟩ = some (.int .i64 0) := (blk_cell BK102.out 0).trans rfl; have hcz9_1 : w8.cell? ⟨gb102, 1, none⟩ = some (.int .i64 0) := (blk_cell BK102.out 1).trans rfl; have hfz9_0 := blk_frozen BK102.out 0; have hfz9_1 := blk_frozen BK102.out 1))
                      go_loopg [10, 11, 68] k2 (fun kq v10 v11 v68 w' => ∃ (x10_3 : Int) (x11_3 : Int) (x68_3 : Int), v10 = .int .i64 x10_3 ∧ v11 = .int .i64 x11_3 ∧ v68 = .int .i64 x68_3 ∧ Aside0 (impl_Join.l1 kq l0 x7_2 x59_2 x10_3 x11_3 l0 (l0.length : Int) x59_2 l0 (l0.length : Int) x68_3 ((rd_T51 l0 x59_2).f0) ((rd_T51 l0 x59_2).f1) = some (r1, r2)) ∧ Aside0 (kq ≤ k2) ∧ Aside0 (w'.heap[gb102]? = some (.cells #[.int .i64 ((rd_T51 l0 x59_2).f0), .int .i64 ((rd_T51 l0 x59_2).f1)] 51 (0, 0))) ∧ Aside0 (Below w.heap.size w w'))
                      case atStart => exact ⟨((rd_T51 l0 x59_2).f1), (1), (0), (by first | rfl | (simp; done) | (simp [*]; done)), (by first | rfl | (simp; done) | (simp [*]; done)), (by first | rfl | (simp; done) | (simp [*]; done)), H', ⟨Nat.le_refl _⟩, ⟨by (with_reducible repeat (first | refine blk_drewN ?_ _ | refine blk_drew ?_ | refine blk_alloc ?_ _)); refine blk_put (cs := #[.int .i64 ((rd_T51 l0 x59_2).f0), .int .i64 0]) ?_ 1 _ rfl; (with_reducible repeat (first | refine blk_drewN ?_ _ | refine blk_drew ?_ | refine blk_alloc ?_ _)); refine blk_put (cs := #[.int .i64 0, .int .i64 0]) ?_ 0 _ rfl; (with_reducible repeat (first | refine blk_drewN ?_ _ | refine blk_drew ?_ | refine blk_alloc ?_ _)); exact BK102.out⟩, ⟨by repeat (first | (with_reducible first | exact HB.out | apply below_alloc | apply pw_below_drewN | apply below_drew1 | refine below_set ?_ GE102.out) | exact HB.out)⟩⟩
                      case round =>
                        clear H'
                        try clear p1
                        try clear q1
                        try clear hx1
                        try clear p2
                        try clear c3
                        try clear c3b0
                        try clear c3b1
                        try clear c4
                        try clear c5
                        try clear c5b0
                        try clear c6
                        try clear c6b0
                        try clear c7
                        try clear c7b0
                        try clear hcz9_0
                        try clear hcz9_1
                        try clear hfz9_0
                        try clear hfz9_1
                        try clear hx101_0
                        try clear hx101_1
                        try clear p101
                        try clear p2
                        try clear q101
                        obtain ⟨x10_3, x11_3, x68_3, rfl, rfl, rfl, HA, HK3, BK102, HB⟩ := hrel
                        cases gk with
                        | zero => exact absurd HA.out (by simp [impl_Join.l1])
                        | succ k3 =>
                          have H := HA.out
                          clear HA
                          simp only [impl_Join.l1] at H
                          by_cases c10 : x68_3 < (l0.length : Int)
                          · rw [if_pos c10] at H
                            have c10b0 : decide (x68_3 < (l0.length : Int)) = true := decide_eq_true c10
                            clear c10
                            by_cases c11 : 0 ≤ x68_3
                            · rw [if_pos c11] at H
                              have c11b0 : decide (0 ≤ x68_3) = true := decide_eq_true c11
                              clear c11
                              by_cases c12 : x68_3 < (l0.length : Int)
                              · rw [if_pos c12] at H
                                have c12b0 : decide (x68_3 < (l0.length : Int)) = true := decide_eq_true c12
                                clear c12
                                by_cases c13 : x68_3 = x59_2
                                · rw [if_pos c13] at H
                                  have c13b0 : (x68_3 == x59_2) = true := beq_iff_eq.mpr c13
                                  have c13b1 : (x68_3 != x59_2) = false := bne_eq_false_iff_eq.mpr c13
                                  clear c13
                                  have H' := Aside0.mk H
                                  clear H
                                  have p103 : 0 ≤ (x68_3 : Int) := of_decide_eq_true (by first | (with_reducible assumption) | assumption)
                                  have q103 : x68_3 < (l0.length : Int) := of_decide_eq_true (by first | (with_reducible assumption) | assumption)
                                  obtain ⟨ad103, e103, hx103_0, hx103_1⟩ := at_T51 HR0.out x68_3 p103 q103
                                  obtain rfl : ad101 = ad103 := (by injection e103)
                                  replace hx103_0 := (HB.out.cell (World.block_lt_of_cell? w _ hx103_0)).trans hx103_0
                                  replace hx103_1 := (HB.out.cell (World.block_lt_of_cell? w _ hx103_1)).trans hx103_1
                                  replace p103 := eq_true p103
                                  replace q103 := eq_true q103
                                  go_wp2_with (first | ((with_reducible refine gate_dst (N := 13) rfl ?_); (try (refine gate_guard (by rfl) ?_; dsimp only)); refine box_event ?hg (N := 13) ?hd (cs := #[.int .i64 0, .int .i64 0]) (t := 51) ?hr ?_; (case hd => rfl); (case hg => rfl); (case hr => first | (go_simp; done) | (go_simp; rfl)); intro gb104 hg w14 hbox hb; have n0_ := Aside0.mk (blk_below (g := gb102) (o := .cells #[.int .i64 ((rd_T51 l0 x59_2).f0), .int .i64 ((rd_T51 l0 x59_2).f1)] 51 (0, 0)) (by (with_reducible repeat (first | refine blk_drewN ?_ _ | refine blk_drew ?_ | refine blk_alloc ?_ _)); exact BK102.out) hb); have n1_ := Aside0.mk (below_step (by repeat (first | (with_reducible first | exact HB.out | apply below_alloc | apply pw_below_drewN | apply below_drew1 | refine below_set ?_ GE102.out) | exact HB.out)) hb); have n2_ := Aside0.mk (hbox); have n3_ := Aside0.mk ((by rw [hg]; exact (below_size (by repeat (first | (with_reducible first | exact HB.out | apply below_alloc | apply pw_below_drewN | apply below_drew1 | refine below_set ?_ GE102.out) | exact HB.out))) : w.heap.size ≤ gb104)); have n4_ := Aside0.mk ((by rw [hg]; exact (below_size (by repeat (first | (with_reducible first | exact HB.out | apply below_alloc | apply pw_below_drewN | apply below_drew1 | refine below_set ?_ GE102.out) | exact HB.out))) : w.heap.size ≤ gb104)); have n5_ := Aside0.mk ((by rw [hg]; exact Nat.ne_of_lt (blk_lt (g := gb102) (o := .cells #[.int .i64 ((rd_T51 l0 x59_2).f0), .int .i64 ((rd_T51 l0 x59_2).f1)] 51 (0, 0)) (by (with_reducible repeat (first | refine blk_drewN ?_ _ | refine blk_drew ?_ | refine blk_alloc ?_ _)); exact BK102.out)) : gb102 ≠ gb104)); have n6_ := Aside0.mk ((by rw [hg]; exact Nat.ne_of_gt (blk_lt (g := gb102) (o := .cells #[.int .i64 ((rd_T51 l0 x59_2).f0), .int .i64 ((rd_T51 l0 x59_2).f1)] 51 (0, 0)) (by (with_reducible repeat (first | refine blk_drewN ?_ _ | refine blk_drew ?_ | refine blk_alloc ?_ _)); exact BK102.out)) : gb104 ≠ gb102)); clear BK102; clear HB; have BK102 := n0_; have HB := n1_; have BK104 := n2_; have GW104 := n3_; have GE104 := n4_; have NB102_104 := n5_; have NB104_102 := n6_; clear n0_ n1_ n2_ n3_ n4_ n5_ n6_; clear hb hbox hg; have hnb15 := NB104_102.out; have hnc15 := NB102_104.out; have hcz16_0 : w14.cell? ⟨gb104, 0, none⟩ = some (.int .i64 0) := (blk_cell BK104.out 0).trans rfl; have hcz16_1 : w14.cell? ⟨gb104, 1, none⟩ = some (.int .i64 0) := (blk_cell BK104.out 1).trans rfl; have hfz16_0 := blk_frozen BK104.out 0; have hfz16_1 := blk_frozen BK104.out 1))
                                  go_roundg k3
                                  case measure => have := HJ1.out; have := HK2.out; have := HK3.out; omega
                                  case rel => exact ⟨(x10_3), (x11_3), (wrap64 (x68_3 + 1)), (by first | rfl | (simp; done) | (simp [*]; done)), (by first | rfl | (simp; done) | (simp [*]; done)), (by first | rfl | (simp; done) | (simp [*]; done)), H', ⟨by have := HJ1.out; have := HK2.out; have := HK3.out; omega⟩, ⟨by (with_reducible repeat (first | refine blk_drewN ?_ _ | refine blk_drew ?_ | refine blk_alloc ?_ _)); refine blk_far ?_ NB102_104.out _; (with_reducible repeat (first | refine blk_drewN ?_ _ | refine blk_drew ?_ | refine blk_alloc ?_ _)); refine blk_far ?_ NB102_104.out _; (with_reducible repeat (first | refine blk_drewN ?_ _ | refine blk_drew ?_ | refine blk_alloc ?_ _)); exact BK102.out⟩, ⟨by repeat (first | (with_reducible first | exact HB.out | apply below_alloc | apply pw_below_drewN | apply below_drew1 | refine below_set ?_ GE102.out | refine below_set ?_ GE104.out) | exact HB.out)⟩⟩
                                · rw [if_neg c13] at H
                                  have c13b0 : (x68_3 == x59_2) = false := beq_eq_false_iff_ne.mpr c13
                                  have c13b1 : (x68_3 != x59_2) = true := bne_iff_ne.mpr c13
                                  have H' := Aside0.mk H
                                  clear H
                                  have p103 : 0 ≤ (x68_3 : Int) := of_decide_eq_true (by first | (with_reducible assumption) | assumption)
                                  have q103 : x68_3 < (l0.length : Int) := of_decide_eq_true (by first | (with_reducible assumption) | assumption)
                                  obtain ⟨ad103, e103, hx103_0, hx103_1⟩ := at_T51 HR0.out x68_3 p103 q103
                                  obtain rfl : ad101 = ad103 := (by injection e103)
                                  replace hx103_0 := (HB.out.cell (World.block_lt_of_cell? w _ hx103_0)).trans hx103_0
                                  replace hx103_1 := (HB.out.cell (World.block_lt_of_cell? w _ hx103_1)).trans hx103_1
                                  replace p103 := eq_true p103
                                  replace q103 := eq_true q103
                                  go_wp2_with (first | ((with_reducible refine gate_dst (N := 13) rfl ?_); (try (refine gate_guard (by rfl) ?_; dsimp only)); refine box_event ?hg (N := 13) ?hd (cs := #[.int .i64 0, .int .i64 0]) (t := 51) ?hr ?_; (case hd => rfl); (case hg => rfl); (case hr => first | (go_simp; done) | (go_simp; rfl)); intro gb104 hg w17 hbox hb; have n0_ := Aside0.mk (blk_below (g := gb102) (o := .cells #[.int .i64 ((rd_T51 l0 x59_2).f0), .int .i64 ((rd_T51 l0 x59_2).f1)] 51 (0, 0)) (by (with_reducible repeat (first | refine blk_drewN ?_ _ | refine blk_drew ?_ | refine blk_alloc ?_ _)); exact BK102.out) hb); have n1_ := Aside0.mk (below_step (by repeat (first | (with_reducible first | exact HB.out | apply below_alloc | apply pw_below_drewN | apply below_drew1 | refine below_set ?_ GE102.out) | exact HB.out)) hb); have n2_ := Aside0.mk (hbox); have n3_ := Aside0.mk ((by rw [hg]; exact (below_size (by repeat (first | (with_reducible first | exact HB.out | apply below_alloc | apply pw_below_drewN | apply below_drew1 | refine below_set ?_ GE102.out) | exact HB.out))) : w.heap.size ≤ gb104)); have n4_ := Aside0.mk ((by rw [hg]; exact (below_size (by repeat (first | (with_reducible first | exact HB.out | apply below_alloc | apply pw_below_drewN | apply below_drew1 | refine below_set ?_ GE102.out) | exact HB.out))) : w.heap.size ≤ gb104)); have n5_ := Aside0.mk ((by rw [hg]; exact Nat.ne_of_lt (blk_lt (g := gb102) (o := .cells #[.int .i64 ((rd_T51 l0 x59_2).f0), .int .i64 ((rd_T51 l0 x59_2).f1)] 51 (0, 0)) (by (with_reducible repeat (first | refine blk_drewN ?_ _ | refine blk_drew ?_ | refine blk_alloc ?_ _)); exact BK102.out)) : gb102 ≠ gb104)); have n6_ := Aside0.mk ((by rw [hg]; exact Nat.ne_of_gt (blk_lt (g := gb102) (o := .cells #[.int .i64 ((rd_T51 l0 x59_2).f0), .int .i64 ((rd_T51 l0 x59_2).f1)] 51 (0, 0)) (by (with_reducible repeat (first | refine blk_drewN ?_ _ | refine blk_drew ?_ | refine blk_alloc ?_ _)); exact BK102.out)) : gb104 ≠ gb102)); clear BK102; clear HB; have BK102 := n0_; have HB := n1_; have BK104 := n2_; have GW104 := n3_; have GE104 := n4_; have NB102_104 := n5_; have NB104_102 := n6_; clear n0_ n1_ n2_ n3_ n4_ n5_ n6_; clear hb hbox hg; have hnb18 := NB104_102.out; have hnc18 := NB102_104.out; have hcz19_0 : w17.cell? ⟨gb104, 0, none⟩ = some (.int .i64 0) := (blk_cell BK104.out 0).trans rfl; have hcz19_1 : w17.cell? ⟨gb104, 1, none⟩ = some (.int .i64 0) := (blk_cell BK104.out 1).trans rfl; have hfz19_0 := blk_frozen BK104.out 0; have hfz19_1 := blk_frozen BK104.out 1; have hcz20_0 : w17.cell? ⟨gb102, 0, none⟩ = some (.int .i64 ((rd_T51 l0 x59_2).f0)) := (blk_cell BK102.out 0).trans rfl; have hcz20_1 : w17.cell? ⟨gb102, 1, none⟩ = some (.int .i64 ((rd_T51 l0 x59_2).f1)) := (blk_cell BK102.out 1).trans rfl; have hfz20_0 := blk_frozen BK102.out 0; have hfz20_1 := blk_frozen BK102.out 1))
                                  go_roundg k3
                                  case measure => have := HJ1.out; have := HK2.out; have := HK3.out; omega
                                  case rel => exact ⟨(Int.tmod (wrap64 (x10_3 * ((rd_T51 l0 x68_3).f0))) 1073741789), (Int.tmod (wrap64 (x11_3 * (Int.tmod (wrap64 ((wrap64 (((rd_T51 l0 x68_3).f0) - ((rd_T51 l0 x59_2).f0))) + 1073741789)) 1073741789))) 1073741789), (wrap64 (x68_3 + 1)), (by first | rfl | (simp; done) | (simp [*]; done)), (by first | rfl | (simp; done) | (simp [*]; done)), (by first | rfl | (simp; done) | (simp [*]; done)), H', ⟨by have := HJ1.out; have := HK2.out; have := HK3.out; omega⟩, ⟨by (with_reducible repeat (first | refine blk_drewN ?_ _ | refine blk_drew ?_ | refine blk_alloc ?_ _)); refine blk_far ?_ NB102_104.out _; (with_reducible repeat (first | refine blk_drewN ?_ _ | refine blk_drew ?_ | refine blk_alloc ?_ _)); refine blk_far ?_ NB102_104.out _; (with_reducible repeat (first | refine blk_drewN ?_ _ | refine blk_drew ?_ | refine blk_alloc ?_ _)); exact BK102.out⟩, ⟨by repeat (first | (with_reducible first | exact HB.out | apply below_alloc | apply pw_below_drewN | apply below_drew1 | refine below_set ?_ GE102.out | refine below_set ?_ GE104.out) | exact HB.out)⟩⟩
                              · rw [if_neg c12] at H
                                exact absurd H (by simp)
                            · rw [if_neg c11] at H
                              exact absurd H (by simp)
                          · rw [if_neg c10] at H
                            have c10b0 : decide (x68_3 < (l0.length : Int)) = false := decide_eq_false c10
                            clear c10
                            replace H := Option.bind_eq_some_iff.mp H
                            obtain ⟨t105, A210, H⟩ := H
                            replace H : (impl_Join.l0 k3 l0 (Int.tmod (wrap64 (x7_2 + (wrap64 (x10_3 * t105)))) 1073741789) l0 (l0.length : Int) (wrap64 (x59_2 + 1))) = some (r1, r2) := H
                            have A21 := Aside0.mk A210
                            clear A210
                            have H' := Aside0.mk H
                            clear H
                            go_wp2_with (first | ((with_reducible refine gate_callee (f := 80) rfl ?_); refine goesL_ (some 95) rfl rfl Try.func80 (by kernel_rfl) rfl #[.int .i64 x11_3, .int .i64 1073741787, .int .i64 1073741789] rfl (by (try simp only [List.map_toArray, List.map_cons, List.map_nil]); first | done | rfl | (simp only [List.length_drop, List.length_take]; rfl)) ?_; (with_reducible refine (impl_ypow.calls k3 x11_3 1073741787 1073741789 t105 _ A21.out).mono ?_); rintro e w' ⟨rfl, ⟨nd, rfl⟩⟩; refine ⟨_, rfl, ?_⟩))
                            go_roundg k3
                            case measure => have := HJ1.out; have := HK2.out; have := HK3.out; omega
                            case rel => exact ⟨(Int.tmod (wrap64 (x7_2 + (wrap64 (x10_3 * t105)))) 1073741789), (wrap64 (x59_2 + 1)), (by first | rfl | (simp; done) | (simp [*]; done)), (by first | rfl | (simp; done) | (simp [*]; done)), H', ⟨by have := HJ1.out; have := HK2.out; have := HK3.out; omega⟩, ⟨by repeat (first | (with_reducible first | exact HB.out | apply below_alloc | apply pw_below_drewN | apply below_drew1 | refine below_set ?_ GE102.out) | exact HB.out)⟩⟩
                    · rw [if_neg c7] at H
                      exact absurd H (by simp)
                  · rw [if_neg c6] at H
                    exact absurd H (by simp)
                · rw [if_neg c5] at H
                  have c5b0 : decide (x59_2 < (l0.length : Int)) = false := decide_eq_false c5
                  clear c5
                  simp only [Option.some.injEq, Prod.mk.injEq] at H
                  obtain ⟨rfl, rfl⟩ := H
                  go_wp2
                  go_ret2
                  exact ⟨by first | rfl | (simp [errW_none, errW_some] <;> rfl) | (simp [*, errW_none, errW_some] <;> rfl), by repeat (first | (with_reducible first | exact HB.out | apply below_alloc | apply pw_below_drewN | apply below_drew1) | exact HB.out)⟩
end Go.Proofs.Ytccbjchlcelkgaa.Pr
namespace Go.Proofs.Ytccbjchlcelkgaa.Pr
open Go.RowKit Go.Proofs.YtccbjchlcelkgaaW.PrintWords Go.Proofs.YtccbjchlcelkgaaW.PrintLast Go.Proofs.YtccbjchlcelkgaaW.PrintMore
attribute [local go_sem] max2_int min2_int max_two min_two max_three min_three max_four min_four
set_option linter.unusedVariables false
set_option linter.unusedSimpArgs false
theorem eqA51 (d : Nat) (w : World) (x0 y0 : Int) (x1 y1 : Int) :
    (Op.equalIn (d + 2) 51 (.agg #[.int .i64 x0, .int .i64 x1]) (.agg #[.int .i64 y0, .int .i64 y1])).run Try.prog w = .ok (x0 == y0 && (x1 == y1)) w := by
  refine eqA_of Try.underlying51 (by kernel_rfl) ?_
  refine eqf_cons (by rfl) (by go_simp; rfl) (by go_simp; rfl) (by go_simp) ?_
  exact eqf_last (by rfl) (by go_simp; rfl) (by go_simp; rfl) (by go_simp)
end Go.Proofs.Ytccbjchlcelkgaa.Pr
namespace Go.Proofs.Ytccbjchlcelkgaa.Pr
open Go.RowKit Go.Proofs.YtccbjchlcelkgaaW.PrintWords Go.Proofs.YtccbjchlcelkgaaW.PrintLast Go.Proofs.YtccbjchlcelkgaaW.PrintMore
attribute [local go_sem] max2_int min2_int max_two min_two max_three min_three max_four min_four
set_option linter.unusedVariables false
set_option linter.unusedSimpArgs false
attribute [local go_sem high] eqA51
mutual
def laws_FnShared.l0 : Nat → List Int → Int → Int → Int → List (S51) → List (S51) → Int → Int → Option (Bool)
  | 0, _, _, _, _, _, _, _, _ => none
  | k + 1, x1, x5, x6, x7, x9, x10, x50, x51 => if x51 < x50 then (if 0 ≤ x51 then (if x51 < (x9.length : Int) then (if x51 < (x10.length : Int) then (if (!(((rd_T51 x9 x51).f0) == ((rd_T51 x10 x51).f0)) || (!(((rd_T51 x9 x51).f1) == ((rd_T51 x10 x51).f1)))) = true then (none) else (laws_FnShared.l0 k x1 x5 x6 x7 x9 x10 x50 (wrap64 (x51 + 1)))) else (none)) else (none)) else (none)) else (if (x9.length : Int) = 0 then (some true) else (if x6 = 0 then (none) else (laws_FnShared.l1 k x5 x6 x7 x9 ([] : List (S51)) ((x1.length : Int) % x6) 0)))
def laws_FnShared.l1 : Nat → Int → Int → Int → List (S51) → List (S51) → Int → Int → Option (Bool)
  | 0, _, _, _, _, _, _, _ => none
  | k + 1, x5, x6, x7, x9, x12, x13, x14 => if x14 < x7 then (if x6 = 0 then (none) else (if 0 ≤ (Int.tmod (wrap64 (x13 + x14)) x6) then (if (Int.tmod (wrap64 (x13 + x14)) x6) < (x9.length : Int) then (if x12.length < 8796093022208 then (laws_FnShared.l1 k x5 x6 x7 x9 (x12 ++ [(⟨(rd_T51 x9 (Int.tmod (wrap64 (x13 + x14)) x6)).f0, (rd_T51 x9 (Int.tmod (wrap64 (x13 + x14)) x6)).f1⟩ : S51)]) x13 (wrap64 (x14 + 1))) else (none)) else (none)) else (none))) else ((impl_Join.f k x12).bind fun bt119 => ((impl_Join.f k x9).bind fun bt121 => (if bt119.2 = true then (if bt121.2 = true then (if bt119.1 = x5 then (some (bt121.1 == x5)) else (none)) else (none)) else (none))))
end
def laws_FnShared.f (k : Nat) (l0 : List Int) (l1 : List Int) : Option (Bool) := if (l0.length : Int) > 1048576 then (some true) else (if (l1.length : Int) > 1048576 then (some true) else ((spec_DrawSplit.f k l0).bind fun bt101 => ((impl_Split.f k bt101.1 bt101.2.1 bt101.2.2.1 bt101.2.2.2).bind fun t107 => ((spec_Split.f k bt101.1 bt101.2.1 bt101.2.2.1 bt101.2.2.2).bind fun t110 => (if (t107.length : Int) = (t110.length : Int) then (laws_FnShared.l0 k l1 bt101.1 bt101.2.1 bt101.2.2.1 t107 t110 (t107.length : Int) 0) else (none))))))
set_option maxHeartbeats 8000000 in
set_option maxRecDepth 100000 in
theorem laws_FnShared.calls (k : Nat) (A0 : Option Addr) (c0 : Nat) (l0 : List Int) (A1 : Option Addr) (c1 : Nat) (l1 : List Int) (r : Bool) (w : World) (hr0 : Kd.C (Kd.int .u8) w A0 l0.length l0) (hc0 : l0.length ≤ c0) (hr1 : Kd.C (Kd.int .u8) w A1 l1.length l1) (hc1 : l1.length ≤ c1) (h : laws_FnShared.f k l0 l1 = some r) :
    Calls Try.prog 7 #[.slice A0 l0.length c0, .slice A1 l1.length c1] w fun e w' => e = .returned (.bool r) ∧ Below w.heap.size w w' := by
  have hu51 := Try.underlying51
  have HR0 := Aside0.mk hr0
  have HC0 := Aside0.mk hc0
  clear hr0 hc0
  have HR1 := Aside0.mk hr1
  have HC1 := Aside0.mk hc1
  clear hr1 hc1
  have HB := Aside0.mk (Below.refl w.heap.size w)
  have H : (if (l0.length : Int) > 1048576 then (some true) else (if (l1.length : Int) > 1048576 then (some true) else ((spec_DrawSplit.f k l0).bind fun bt101 => ((impl_Split.f k bt101.1 bt101.2.1 bt101.2.2.1 bt101.2.2.2).bind fun t107 => ((spec_Split.f k bt101.1 bt101.2.1 bt101.2.2.1 bt101.2.2.2).bind fun t110 => (if (t107.length : Int) = (t110.length : Int) then (laws_FnShared.l0 k l1 bt101.1 bt101.2.1 bt101.2.2.1 t107 t110 (t107.length : Int) 0) else (none))))))) = some r := h
  clear h
  by_cases c3 : (l0.length : Int) > 1048576
  · rw [if_pos c3] at H
    have c3b0 : decide (1048576 < (l0.length : Int)) = true := decide_eq_true c3
    have c3b1 : decide (1048576 < l0.length) = true := decide_eq_true (by omega)
    clear c3
    obtain rfl := Option.some.inj H
    go_enter Try.func7, Try.ntmps7
    go_wp2
    repeat (go_quiet (fail); try go_wp2)
    go_ret
    exact ⟨by first | rfl | (simp [errW_none, errW_some] <;> rfl) | (simp [*, errW_none, errW_some] <;> rfl), by repeat (first | (with_reducible first | exact HB.out | apply below_alloc | apply pw_below_drewN | apply below_drew1) | exact HB.out)⟩
  · rw [if_neg c3] at H
    have c3b0 : decide (1048576 < (l0.length : Int)) = false := decide_eq_false c3
    have c3b1 : decide (1048576 < l0.length) = false := decide_eq_false (by omega)
    clear c3
    by_cases c4 : (l1.length : Int) > 1048576
    · rw [if_pos c4] at H
      have c4b0 : decide (1048576 < (l1.length : Int)) = true := decide_eq_true c4
      have c4b1 : decide (1048576 < l1.length) = true := decide_eq_true (by omega)
      clear c4
      obtain rfl := Option.some.inj H
      go_enter Try.func7, Try.ntmps7
      go_wp2
      repeat (go_quiet (fail); try go_wp2)
      go_ret
      exact ⟨by first | rfl | (simp [errW_none, errW_some] <;> rfl) | (simp [*, errW_none, errW_some] <;> rfl), by repeat (first | (with_reducible first | exact HB.out | apply below_alloc | apply pw_below_drewN | apply below_drew1) | exact HB.out)⟩
    · rw [if_neg c4] at H
      have c4b0 : decide (1048576 < (l1.length : Int)) = false := decide_eq_false c4
      have c4b1 : decide (1048576 < l1.length) = false := decide_eq_false (by omega)
      clear c4
      replace H := Option.bind_eq_some_iff.mp H
      obtain ⟨⟨t101, t102, t103, t104⟩, A50, H⟩ := H
      replace H : ((impl_Split.f k t101 t102 t103 t104).bind fun t107 => ((spec_Split.f k t101 t102 t103 t104).bind fun t110 => (if (t107.length : Int) = (t110.length : Int) then (laws_FnShared.l0 k l1 t101 t102 t103 t107 t110 (t107.length : Int) 0) else (none)))) = some r := H
      have A5 := Aside0.mk A50
      clear A50
      replace H := Option.bind_eq_some_iff.mp H
      obtain ⟨t107, A60, H⟩ := H
      replace H : ((spec_Split.f k t101 t102 t103 t104).bind fun t110 => (if (t107.length : Int) = (t110.length : Int) then (laws_FnShared.l0 k l1 t101 t102 t103 t107 t110 (t107.length : Int) 0) else (none))) = some r := H
      have A6 := Aside0.mk A60
      clear A60
      replace H := Option.bind_eq_some_iff.mp H
      obtain ⟨t110, A70, H⟩ := H
      replace H : (if (t107.length : Int) = (t110.length : Int) then (laws_FnShared.l0 k l1 t101 t102 t103 t107 t110 (t107.length : Int) 0) else (none)) = some r := H
      have A7 := Aside0.mk A70
      clear A70
      by_cases c8 : (t107.length : Int) = (t110.length : Int)
      · rw [if_pos c8] at H
        have c8b0 : ((t107.length : Int) == (t110.length : Int)) = true := beq_iff_eq.mpr c8
        have c8b1 : ((t107.length : Int) != (t110.length : Int)) = false := bne_eq_false_iff_eq.mpr c8
        have c8b2 : (t107.length == t110.length) = true := by first | simpa using c8 | (simp at c8 ⊢; omega)
        clear c8
        have H' := Aside0.mk H
        clear H
        go_enter Try.func7, Try.ntmps7
        go_wp2_with (first | (go_at_call 32; (with_reducible refine (spec_DrawSplit.calls k _ _ l0 t101 t102 t103 t104 _ ?side1 ?side2 A5.out).mono ?_); (case side1 => repeat (first | exact HR0.out | (with_reducible refine Kd.C_alloc ?_ _) | (with_reducible refine Kd.C_drewN ?_ _) | (with_reducible refine Kd.C_drew ?_))); (case side2 => exact HC0.out); rintro e w9 ⟨v105, rfl, ho0, hb⟩; have n0_ := Aside0.mk (Kd.R_lower ho0 (below_size (by repeat (first | (with_reducible first | exact HB.out | apply below_alloc | apply pw_below_drewN | apply below_drew1) | exact HB.out)))); have n1_ := Aside0.mk (below_step (by repeat (first | (with_reducible first | exact HB.out | apply below_alloc | apply pw_below_drewN | apply below_drew1) | exact HB.out)) hb); clear HB; have HO106 := n0_; have HB := n1_; clear n0_ n1_; (try clear hb); (try clear hb2); (try clear hk); (try clear hi); (try clear ho0); obtain ⟨Ao10, co10, eo10⟩ := Kd.R_slice HO106.out; subst eo10) | (go_at_call 33; (with_reducible refine (impl_Split.calls k t101 t102 t103 _ _ t104 t107 _ ?side1 ?side2 A6.out).mono ?_); (case side1 => repeat (first | exact (Kd.R_reads' HO106.out).2.2 | (with_reducible refine Kd.C_alloc ?_ _) | (with_reducible refine Kd.C_drewN ?_ _) | (with_reducible refine Kd.C_drew ?_))); (case side2 => exact (Kd.R_reads' HO106.out).2.1); rintro e w11 ⟨v108, rfl, ho0, hb⟩; have n0_ := Aside0.mk (Kd.R_below (by (with_reducible repeat (first | apply Kd.R_alloc | apply Kd.R_drewN | apply Kd.R_drew)); exact HO106.out) hb); have n1_ := Aside0.mk (Kd.R_lower ho0 (below_size (by repeat (first | (with_reducible first | exact HB.out | apply below_alloc | apply pw_below_drewN | apply below_drew1) | exact HB.out)))); have n2_ := Aside0.mk (below_step (by repeat (first | (with_reducible first | exact HB.out | apply below_alloc | apply pw_below_drewN | apply below_drew1) | exact HB.out)) hb); clear HO106; clear HB; have HO106 := n0_; have HO109 := n1_; have HB := n2_; clear n0_ n1_ n2_; (try clear hb); (try clear hb2); (try clear hk); (try clear hi); (try clear ho0)) | (go_at_call 34; (with_reducible refine (spec_Split.calls k t101 t102 t103 _ _ t104 t110 _ ?side1 ?side2 A7.out).mono ?_); (case side1 => repeat (first | exact (Kd.R_reads' HO106.out).2.2 | (with_reducible refine Kd.C_alloc ?_ _) | (with_reducible refine Kd.C_drewN ?_ _) | (with_reducible refine Kd.C_drew ?_))); (case side2 => exact (Kd.R_reads' HO106.out).2.1); rintro e w12 ⟨v111, rfl, ho0, hb⟩; have n0_ := Aside0.mk (Kd.R_below (by (with_reducible repeat (first | apply Kd.R_alloc | apply Kd.R_drewN | apply Kd.R_drew)); exact HO106.out) hb); have n1_ := Aside0.mk (Kd.R_elder' (by (with_reducible repeat (first | apply Kd.R_alloc | apply Kd.R_drewN | apply Kd.R_drew)); exact HO109.out) (Kd.R_base ho0) hb); have n2_ := Aside0.mk (Kd.R_lower (Kd.R_new' ho0 (Kd.R_lt (by (with_reducible repeat (first | apply Kd.R_alloc | apply Kd.R_drewN | apply Kd.R_drew)); exact HO109.out))) (below_size (by repeat (first | (with_reducible first | exact HB.out | apply below_alloc | apply pw_below_drewN | apply below_drew1) | exact HB.out)))); have n3_ := Aside0.mk (below_step (by repeat (first | (with_reducible first | exact HB.out | apply below_alloc | apply pw_below_drewN | apply below_drew1) | exact HB.out)) hb); clear HO106; clear HO109; clear HB; have HO106 := n0_; have HO109 := n1_; have HO112 := n2_; have HB := n3_; clear n0_ n1_ n2_ n3_; (try clear hb); (try clear hb2); (try clear hk); (try clear hi); (try clear ho0); obtain ⟨Ao13, co13, eo13⟩ := Kd.R_slice HO109.out; subst eo13; obtain ⟨Ao14, co14, eo14⟩ := Kd.R_slice HO112.out; subst eo14))
        repeat (go_quiet (first | (go_at_call 32; (with_reducible refine (spec_DrawSplit.calls k _ _ l0 t101 t102 t103 t104 _ ?side1 ?side2 A5.out).mono ?_); (case side1 => repeat (first | exact HR0.out | (with_reducible refine Kd.C_alloc ?_ _) | (with_reducible refine Kd.C_drewN ?_ _) | (with_reducible refine Kd.C_drew ?_))); (case side2 => exact HC0.out); rintro e w9 ⟨v105, rfl, ho0, hb⟩; have n0_ := Aside0.mk (Kd.R_lower ho0 (below_size (by repeat (first | (with_reducible first | exact HB.out | apply below_alloc | apply pw_below_drewN | apply below_drew1) | exact HB.out)))); have n1_ := Aside0.mk (below_step (by repeat (first | (with_reducible first | exact HB.out | apply below_alloc | apply pw_below_drewN | apply below_drew1) | exact HB.out)) hb); clear HB; have HO106 := n0_; have HB := n1_; clear n0_ n1_; (try clear hb); (try clear hb2); (try clear hk); (try clear hi); (try clear ho0); obtain ⟨Ao10, co10, eo10⟩ := Kd.R_slice HO106.out; subst eo10) | (go_at_call 33; (with_reducible refine (impl_Split.calls k t101 t102 t103 _ _ t104 t107 _ ?side1 ?side2 A6.out).mono ?_); (case side1 => repeat (first | exact (Kd.R_reads' HO106.out).2.2 | (with_reducible refine Kd.C_alloc ?_ _) | (with_reducible refine Kd.C_drewN ?_ _) | (with_reducible refine Kd.C_drew ?_))); (case side2 => exact (Kd.R_reads' HO106.out).2.1); rintro e w11 ⟨v108, rfl, ho0, hb⟩; have n0_ := Aside0.mk (Kd.R_below (by (with_reducible repeat (first | apply Kd.R_alloc | apply Kd.R_drewN | apply Kd.R_drew)); exact HO106.out) hb); have n1_ := Aside0.mk (Kd.R_lower ho0 (below_size (by repeat (first | (with_reducible first | exact HB.out | apply below_alloc | apply pw_below_drewN | apply below_drew1) | exact HB.out)))); have n2_ := Aside0.mk (below_step (by repeat (first | (with_reducible first | exact HB.out | apply below_alloc | apply pw_below_drewN | apply below_drew1) | exact HB.out)) hb); clear HO106; clear HB; have HO106 := n0_; have HO109 := n1_; have HB := n2_; clear n0_ n1_ n2_; (try clear hb); (try clear hb2); (try clear hk); (try clear hi); (try clear ho0)) | (go_at_call 34; (with_reducible refine (spec_Split.calls k t101 t102 t103 _ _ t104 t110 _ ?side1 ?side2 A7.out).mono ?_); (case side1 => repeat (first | exact (Kd.R_reads' HO106.out).2.2 | (with_reducible refine Kd.C_alloc ?_ _) | (with_reducible refine Kd.C_drewN ?_ _) | (with_reducible refine Kd.C_drew ?_))); (case side2 => exact (Kd.R_reads' HO106.out).2.1); rintro e w12 ⟨v111, rfl, ho0, hb⟩; have n0_ := Aside0.mk (Kd.R_below (by (with_reducible repeat (first | apply Kd.R_alloc | apply Kd.R_drewN | apply Kd.R_drew)); exact HO106.out) hb); have n1_ := Aside0.mk (Kd.R_elder' (by (with_reducible repeat (first | apply Kd.R_alloc | apply Kd.R_drewN | apply Kd.R_drew)); exact HO109.out) (Kd.R_base ho0) hb); have n2_ := Aside0.mk (Kd.R_lower (Kd.R_new' ho0 (Kd.R_lt (by (with_reducible repeat (first | apply Kd.R_alloc | apply Kd.R_drewN | apply Kd.R_drew)); exact HO109.out))) (below_size (by repeat (first | (with_reducible first | exact HB.out | apply below_alloc | apply pw_below_drewN | apply below_drew1) | exact HB.out)))); have n3_ := Aside0.mk (below_step (by repeat (first | (with_reducible first | exact HB.out | apply below_alloc | apply pw_below_drewN | apply below_drew1) | exact HB.out)) hb); clear HO106; clear HO109; clear HB; have HO106 := n0_; have HO109 := n1_; have HO112 := n2_; have HB := n3_; clear n0_ n1_ n2_ n3_; (try clear hb); (try clear hb2); (try clear hk); (try clear hi); (try clear ho0); obtain ⟨Ao13, co13, eo13⟩ := Kd.R_slice HO109.out; subst eo13; obtain ⟨Ao14, co14, eo14⟩ := Kd.R_slice HO112.out; subst eo14)); try go_wp2_with (first | (go_at_call 32; (with_reducible refine (spec_DrawSplit.calls k _ _ l0 t101 t102 t103 t104 _ ?side1 ?side2 A5.out).mono ?_); (case side1 => repeat (first | exact HR0.out | (with_reducible refine Kd.C_alloc ?_ _) | (with_reducible refine Kd.C_drewN ?_ _) | (with_reducible refine Kd.C_drew ?_))); (case side2 => exact HC0.out); rintro e w9 ⟨v105, rfl, ho0, hb⟩; have n0_ := Aside0.mk (Kd.R_lower ho0 (below_size (by repeat (first | (with_reducible first | exact HB.out | apply below_alloc | apply pw_below_drewN | apply below_drew1) | exact HB.out)))); have n1_ := Aside0.mk (below_step (by repeat (first | (with_reducible first | exact HB.out | apply below_alloc | apply pw_below_drewN | apply below_drew1) | exact HB.out)) hb); clear HB; have HO106 := n0_; have HB := n1_; clear n0_ n1_; (try clear hb); (try clear hb2); (try clear hk); (try clear hi); (try clear ho0); obtain ⟨Ao10, co10, eo10⟩ := Kd.R_slice HO106.out; subst eo10) | (go_at_call 33; (with_reducible refine (impl_Split.calls k t101 t102 t103 _ _ t104 t107 _ ?side1 ?side2 A6.out).mono ?_); (case side1 => repeat (first | exact (Kd.R_reads' HO106.out).2.2 | (with_reducible refine Kd.C_alloc ?_ _) | (with_reducible refine Kd.C_drewN ?_ _) | (with_reducible refine Kd.C_drew ?_))); (case side2 => exact (Kd.R_reads' HO106.out).2.1); rintro e w11 ⟨v108, rfl, ho0, hb⟩; have n0_ := Aside0.mk (Kd.R_below (by (with_reducible repeat (first | apply Kd.R_alloc | apply Kd.R_drewN | apply Kd.R_drew)); exact HO106.out) hb); have n1_ := Aside0.mk (Kd.R_lower ho0 (below_size (by repeat (first | (with_reducible first | exact HB.out | apply below_alloc | apply pw_below_drewN | apply below_drew1) | exact HB.out)))); have n2_ := Aside0.mk (below_step (by repeat (first | (with_reducible first | exact HB.out | apply below_alloc | apply pw_below_drewN | apply below_drew1) | exact HB.out)) hb); clear HO106; clear HB; have HO106 := n0_; have HO109 := n1_; have HB := n2_; clear n0_ n1_ n2_; (try clear hb); (try clear hb2); (try clear hk); (try clear hi); (try clear ho0)) | (go_at_call 34; (with_reducible refine (spec_Split.calls k t101 t102 t103 _ _ t104 t110 _ ?side1 ?side2 A7.out).mono ?_); (case side1 => repeat (first | exact (Kd.R_reads' HO106.out).2.2 | (with_reducible refine Kd.C_alloc ?_ _) | (with_reducible refine Kd.C_drewN ?_ _) | (with_reducible refine Kd.C_drew ?_))); (case side2 => exact (Kd.R_reads' HO106.out).2.1); rintro e w12 ⟨v111, rfl, ho0, hb⟩; have n0_ := Aside0.mk (Kd.R_below (by (with_reducible repeat (first | apply Kd.R_alloc | apply Kd.R_drewN | apply Kd.R_drew)); exact HO106.out) hb); have n1_ := Aside0.mk (Kd.R_elder' (by (with_reducible repeat (first | apply Kd.R_alloc | apply Kd.R_drewN | apply Kd.R_drew)); exact HO109.out) (Kd.R_base ho0) hb); have n2_ := Aside0.mk (Kd.R_lower (Kd.R_new' ho0 (Kd.R_lt (by (with_reducible repeat (first | apply Kd.R_alloc | apply Kd.R_drewN | apply Kd.R_drew)); exact HO109.out))) (below_size (by repeat (first | (with_reducible first | exact HB.out | apply below_alloc | apply pw_below_drewN | apply below_drew1) | exact HB.out)))); have n3_ := Aside0.mk (below_step (by repeat (first | (with_reducible first | exact HB.out | apply below_alloc | apply pw_below_drewN | apply below_drew1) | exact HB.out)) hb); clear HO106; clear HO109; clear HB; have HO106 := n0_; have HO109 := n1_; have HO112 := n2_; have HB := n3_; clear n0_ n1_ n2_ n3_; (try clear hb); (try clear hb2); (try clear hk); (try clear hi); (try clear ho0); obtain ⟨Ao13, co13, eo13⟩ := Kd.R_slice HO109.out; subst eo13; obtain ⟨Ao14, co14, eo14⟩ := Kd.R_slice HO112.out; subst eo14)))
        go_loopg [51] k (fun kq v51 w' => ∃ (x51_1 : Int), v51 = .int .i64 x51_1 ∧ Aside0 (laws_FnShared.l0 kq l1 t101 t102 t103 t107 t110 (t107.length : Int) x51_1 = some r) ∧ Aside0 (kq ≤ k) ∧ Aside0 (Kd.R k51 51 w' w.heap.size (fun k_ => some k_ ≠ ((.slice Ao14 t110.length co14) : Value).ownBlock) (.slice Ao13 t107.length co13) t107) ∧ Aside0 (Kd.R k51 51 w' w.heap.size (fun k_ => some k_ ≠ ((.slice Ao13 t107.length co13) : Value).ownBlock) (.slice Ao14 t110.length co14) t110) ∧ Aside0 (Below w.heap.size w w'))
        case atStart => exact ⟨(0), (by first | rfl | (simp; done) | (simp [*]; done)), H', ⟨Nat.le_refl _⟩, ⟨by (with_reducible repeat (first | apply Kd.R_alloc | apply Kd.R_drewN | apply Kd.R_drew)); exact Kd.R_mono HO109.out (fun _ hk => hk.2)⟩, ⟨by (with_reducible repeat (first | apply Kd.R_alloc | apply Kd.R_drewN | apply Kd.R_drew)); exact Kd.R_mono HO112.out (fun _ hk => hk.2)⟩, ⟨by repeat (first | (with_reducible first | exact HB.out | apply below_alloc | apply pw_below_drewN | apply below_drew1) | exact HB.out)⟩⟩
        case round =>
          clear H'
          try clear c1
          try clear p2
          try clear c3
          try clear c3b0
          try clear c3b1
          try clear c4
          try clear c4b0
          try clear c4b1
          try clear c7
          try clear c8
          try clear c8b0
          try clear c8b1
          try clear c8b2
          obtain ⟨x51_1, rfl, HA, HK1, HO_9, HO_10, HB⟩ := hrel
          cases gk with
          | zero => exact absurd HA.out (by simp [laws_FnShared.l0])
          | succ k1 =>
            have H := HA.out
            clear HA
            simp only [laws_FnShared.l0] at H
            by_cases c15 : x51_1 < (t107.length : Int)
            · rw [if_pos c15] at H
              have c15b0 : decide (x51_1 < (t107.length : Int)) = true := decide_eq_true c15
              clear c15
              by_cases c16 : 0 ≤ x51_1
              · rw [if_pos c16] at H
                have c16b0 : decide (0 ≤ x51_1) = true := decide_eq_true c16
                clear c16
                by_cases c17 : x51_1 < (t107.length : Int)
                · rw [if_pos c17] at H
                  have c17b0 : decide (x51_1 < (t107.length : Int)) = true := decide_eq_true c17
                  clear c17
                  by_cases c18 : x51_1 < (t110.length : Int)
                  · rw [if_pos c18] at H
                    have c18b0 : decide (x51_1 < (t110.length : Int)) = true := decide_eq_true c18
                    clear c18
                    by_cases c19 : (!(((rd_T51 t107 x51_1).f0) == ((rd_T51 t110 x51_1).f0)) || (!(((rd_T51 t107 x51_1).f1) == ((rd_T51 t110 x51_1).f1)))) = true
                    · rw [if_pos c19] at H
                      exact absurd H (by simp)
                    · rw [if_neg c19] at H
                      have c19b0 : (!(((rd_T51 t107 x51_1).f0) == ((rd_T51 t110 x51_1).f0)) || (!(((rd_T51 t107 x51_1).f1) == ((rd_T51 t110 x51_1).f1)))) = false := by simpa using c19
                      clear c19
                      have H' := Aside0.mk H
                      clear H
                      have p113 : 0 ≤ (x51_1 : Int) := of_decide_eq_true (by first | (with_reducible assumption) | assumption)
                      have q113 : x51_1 < (t107.length : Int) := of_decide_eq_true (by first | (with_reducible assumption) | assumption)
                      obtain ⟨ad113, e113, hx113_0, hx113_1⟩ := at_T51 (Kd.R_reads' HO_9.out).2.2 x51_1 p113 q113
                      cases e113
                      replace p113 := eq_true p113
                      replace q113 := eq_true q113
                      have p114 : 0 ≤ (x51_1 : Int) := of_decide_eq_true (by first | (with_reducible assumption) | assumption)
                      have q114 : x51_1 < (t110.length : Int) := of_decide_eq_true (by first | (with_reducible assumption) | assumption)
                      obtain ⟨ad114, e114, hx114_0, hx114_1⟩ := at_T51 (Kd.R_reads' HO_10.out).2.2 x51_1 p114 q114
                      cases e114
                      replace p114 := eq_true p114
                      replace q114 := eq_true q114
                      go_wp2
                      repeat (go_quiet (fail); try go_wp2)
                      go_roundg k1
                      case measure => have := HK1.out; omega
                      case rel => exact ⟨(wrap64 (x51_1 + 1)), (by first | rfl | (simp; done) | (simp [*]; done)), H', ⟨by have := HK1.out; omega⟩, ⟨by (with_reducible repeat (first | apply Kd.R_alloc | apply Kd.R_drewN | apply Kd.R_drew)); exact HO_9.out⟩, ⟨by (with_reducible repeat (first | apply Kd.R_alloc | apply Kd.R_drewN | apply Kd.R_drew)); exact HO_10.out⟩, ⟨by repeat (first | (with_reducible first | exact HB.out | apply below_alloc | apply pw_below_drewN | apply below_drew1) | exact HB.out)⟩⟩
                  · rw [if_neg c18] at H
                    exact absurd H (by simp)
                · rw [if_neg c17] at H
                  exact absurd H (by simp)
              · rw [if_neg c16] at H
                exact absurd H (by simp)
            · rw [if_neg c15] at H
              have c15b0 : decide (x51_1 < (t107.length : Int)) = false := decide_eq_false c15
              clear c15
              by_cases c20 : (t107.length : Int) = 0
              · rw [if_pos c20] at H
                have c20b0 : ((t107.length : Int) == 0) = true := beq_iff_eq.mpr c20
                have c20b1 : ((t107.length : Int) != 0) = false := bne_eq_false_iff_eq.mpr c20
                clear c20
                obtain rfl := Option.some.inj H
                go_wp2
                repeat (go_quiet (fail); try go_wp2)
                go_ret
                exact ⟨by first | rfl | (simp [errW_none, errW_some] <;> rfl) | (simp [*, errW_none, errW_some] <;> rfl), by repeat (first | (with_reducible first | exact HB.out | apply below_alloc | apply pw_below_drewN | apply below_drew1) | exact HB.out)⟩
              · rw [if_neg c20] at H
                have c20b0 : ((t107.length : Int) == 0) = false := beq_eq_false_iff_ne.mpr c20
                have c20b1 : ((t107.length : Int) != 0) = true := bne_iff_ne.mpr c20
                have c20b2 : ¬ (t107 = []) := fun h_ => c20 (by rw [h_]; rfl)
                by_cases c21 : t102 = 0
                · rw [if_pos c21] at H
                  exact absurd H (by simp)
                · rw [if_neg c21] at H
                  have c21b0 : (t102 == 0) = false := beq_eq_false_iff_ne.mpr c21
                  have c21b1 : (t102 != 0) = true := bne_iff_ne.mpr c21
                  have H' := Aside0.mk H
                  clear H
                  go_wp2
                  repeat (go_quiet (fail); try go_wp2)
                  go_loopg [12, 14] k1 (fun kq v12 v14 w' => ∃ (x12_2 : List (S51)) (x14_2 : Int), v14 = .int .i64 x14_2 ∧ Aside0 (laws_FnShared.l1 kq t101 t102 t103 t107 x12_2 ((l1.length : Int) % t102) x14_2 = some r) ∧ Aside0 (kq ≤ k1) ∧ Aside0 (Kd.R k51 51 w' w.heap.size (fun k_ => some k_ ≠ (v12 : Value).ownBlock) (.slice Ao13 t107.length co13) t107) ∧ Aside0 (Kd.R k51 51 w' w.heap.size (fun k_ => some k_ ≠ ((.slice Ao13 t107.length co13) : Value).ownBlock) v12 x12_2) ∧ Aside0 (Below w.heap.size w w'))
                  case atStart => exact ⟨(([] : List (S51))), (0), (by first | rfl | (simp; done) | (simp [*]; done)), H', ⟨Nat.le_refl _⟩, ⟨by (with_reducible repeat (first | apply Kd.R_alloc | apply Kd.R_drewN | apply Kd.R_drew)); exact Kd.R_mono HO_9.out (fun _ hk => (by simp [Value.ownBlock]))⟩, ⟨by first | exact Kd.R_nil _ _ _ _ _ | exact Kd.N_nil _ _ _ _ _ | exact Kd.V_nil _ _ _ _ _ | exact Kd.Q_nil _ _ _ _ _ | exact Kd.S_nil _ _ _ _ _⟩, ⟨by repeat (first | (with_reducible first | exact HB.out | apply below_alloc | apply pw_below_drewN | apply below_drew1) | exact HB.out)⟩⟩
                  case round =>
                    clear H'
                    try clear c1
                    try clear p1
                    try clear q1
                    try clear hx1
                    try clear c2
                    try clear p2
                    try clear c3
                    try clear c3b0
                    try clear c3b1
                    try clear c4
                    try clear c4b0
                    try clear c4b1
                    try clear p6
                    try clear c7
                    try clear c8
                    try clear c8b0
                    try clear c8b1
                    try clear c8b2
                    try clear p11
                    try clear q11
                    try clear hx11
                    try clear c15
                    try clear c15b0
                    try clear c16
                    try clear c16b0
                    try clear c17
                    try clear c17b0
                    try clear c18
                    try clear c18b0
                    try clear c19
                    try clear c19b0
                    try clear c20
                    try clear c20b0
                    try clear c20b1
                    try clear c20b2
                    try clear c21
                    try clear c21b0
                    try clear c21b1
                    try clear hx113_0
                    try clear hx113_1
                    try clear hx114_0
                    try clear hx114_1
                    try clear p113
                    try clear p114
                    try clear p2
                    try clear q113
                    try clear q114
                    obtain ⟨x12_2, x14_2, rfl, HA, HK2, HO_9, HO_12, HB⟩ := hrel
                    cases gk with
                    | zero => exact absurd HA.out (by simp [laws_FnShared.l1])
                    | succ k2 =>
                      have H := HA.out
                      clear HA
                      simp only [laws_FnShared.l1] at H
                      by_cases c22 : x14_2 < t103
                      · rw [if_pos c22] at H
                        have c22b0 : decide (x14_2 < t103) = true := decide_eq_true c22
                        clear c22
                        by_cases c23 : t102 = 0
                        · rw [if_pos c23] at H
                          exact absurd H (by simp)
                        · rw [if_neg c23] at H
                          have c23b0 : (t102 == 0) = false := beq_eq_false_iff_ne.mpr c23
                          have c23b1 : (t102 != 0) = true := bne_iff_ne.mpr c23
                          obtain ⟨ji24, hji24⟩ : ∃ j_ : Int, (Int.tmod (wrap64 (((l1.length : Int) % t102) + x14_2)) t102) = j_ := ⟨_, rfl⟩
                          replace H : (if 0 ≤ (ji24) then (if (ji24) < (t107.length : Int) then (if x12_2.length < 8796093022208 then (laws_FnShared.l1 k2 t101 t102 t103 t107 (x12_2 ++ [(⟨(rd_T51 t107 (ji24)).f0, (rd_T51 t107 (ji24)).f1⟩ : S51)]) ((l1.length : Int) % t102) (wrap64 (x14_2 + 1))) else (none)) else (none)) else (none)) = some r := by first | (rw [hji24] at H; exact H) | (simp only [hji24] at H ⊢; exact H)
                          by_cases c25 : 0 ≤ (ji24)
                          · rw [if_pos c25] at H
                            have c25b0 : decide (0 ≤ (ji24)) = true := decide_eq_true c25
                            clear c25
                            by_cases c26 : (ji24) < (t107.length : Int)
                            · rw [if_pos c26] at H
                              have c26b0 : decide ((ji24) < (t107.length : Int)) = true := decide_eq_true c26
                              clear c26
                              by_cases c27 : x12_2.length < 8796093022208
                              · rw [if_pos c27] at H
                                have LMc27 := Aside0.mk c27
                                clear c27
                                obtain ⟨y116, hy116⟩ : ∃ y_ : List (S51), y_ = (x12_2 ++ [(⟨(rd_T51 t107 (ji24)).f0, (rd_T51 t107 (ji24)).f1⟩ : S51)]) := ⟨_, rfl⟩
                                replace H : (laws_FnShared.l1 k2 t101 t102 t103 t107 y116 ((l1.length : Int) % t102) (wrap64 (x14_2 + 1))) = some r := by first | (rw [hy116]; with_reducible exact H) | (have H2_ := (Option.bind_some _ _).symm.trans H; rw [hy116]; with_reducible exact H2_) | (have H2_ := (Option.bind_some _ _).symm.trans H; with_reducible exact H2_) | with_reducible exact H | (rw [hy116]; exact H) | exact H
                                have Ny116 := Aside0.mk hy116
                                clear hy116
                                have H' := Aside0.mk H
                                clear H
                                have p115 : 0 ≤ ((ji24) : Int) := of_decide_eq_true (by first | (with_reducible assumption) | assumption)
                                have q115 : (ji24) < (t107.length : Int) := of_decide_eq_true (by first | (with_reducible assumption) | assumption)
                                obtain ⟨ad115, e115, hx115_0, hx115_1⟩ := at_T51 (Kd.R_reads' HO_9.out).2.2 (ji24) p115 q115
                                cases e115
                                replace p115 := eq_true p115
                                replace q115 := eq_true q115
                                go_wp2_with (first | ((with_reducible refine gate_builtin (b := .append) (xs := #[.tmp 76, .tmp 85]) rfl ?_); (try (refine gate_guard (by rfl) ?_; dsimp only)); at_builtin; refine Kd.R_append k51 (w0 := w) w.heap.size rfl (.tmp 76) (.tmp 85) 48 51 (.agg #[(.int .i64 0), (.int .i64 0)]) 16 rfl Try.underlying48 info51 rfl (by decide) (by omega) u12 x12_2 (⟨(rd_T51 t107 (ji24)).f0, (rd_T51 t107 (ji24)).f1⟩ : S51) [.int .i64 ((rd_T51 t107 (ji24)).f0), .int .i64 ((rd_T51 t107 (ji24)).f1)] (fun k_ => some k_ ≠ (.slice (some ad115) t107.length co13 : Value).ownBlock) (fun _ => False) rfl rfl ?aP (fun _ hk => hk.elim) ?aF ?aO ?aB ?aS ?aL ?_; (case aP => exact k51_mkM _ _ _ (⟨(rd_T51 t107 (ji24)).f0, (rd_T51 t107 (ji24)).f1⟩ : S51)); (case aB => exact (by repeat (first | (with_reducible first | exact HB.out | apply below_alloc | apply pw_below_drewN | apply below_drew1) | exact HB.out))); (case aF => exact (fun k_ hk => Kd.fresh' (Kd.R_lt (by (with_reducible repeat (first | apply Kd.R_alloc | apply Kd.R_drewN | apply Kd.R_drew)); exact HO_9.out)) k_ hk)); (case aO => exact (by (with_reducible repeat (first | apply Kd.R_alloc | apply Kd.R_drewN | apply Kd.R_drew)); exact HO_12.out)); (case aS => exact (below_size (by repeat (first | (with_reducible first | exact HB.out | apply below_alloc | apply pw_below_drewN | apply below_drew1) | exact HB.out)))); (case aL => have := LMc27.out; omega); intro v117 w28 ho hb hg hat; rw [← Ny116.out] at ho; have n0_ := Aside0.mk (Kd.R_after (ok := (fun _ => True)) (by (with_reducible repeat (first | apply Kd.R_alloc | apply Kd.R_drewN | apply Kd.R_drew)); exact Kd.R_mono HO_9.out (fun _ hk => ⟨trivial, hk⟩)) hg hat); have n1_ := Aside0.mk (hb); have n2_ := Aside0.mk (ho); clear HO_9; clear HB; clear HO_12; have HO_9 := n0_; have HB := n1_; have HO118 := n2_; clear n0_ n1_ n2_; clear ho hb hg hat))
                                repeat (go_quiet (first | ((with_reducible refine gate_builtin (b := .append) (xs := #[.tmp 76, .tmp 85]) rfl ?_); (try (refine gate_guard (by rfl) ?_; dsimp only)); at_builtin; refine Kd.R_append k51 (w0 := w) w.heap.size rfl (.tmp 76) (.tmp 85) 48 51 (.agg #[(.int .i64 0), (.int .i64 0)]) 16 rfl Try.underlying48 info51 rfl (by decide) (by omega) u12 x12_2 (⟨(rd_T51 t107 (ji24)).f0, (rd_T51 t107 (ji24)).f1⟩ : S51) [.int .i64 ((rd_T51 t107 (ji24)).f0), .int .i64 ((rd_T51 t107 (ji24)).f1)] (fun k_ => some k_ ≠ (.slice (some ad115) t107.length co13 : Value).ownBlock) (fun _ => False) rfl rfl ?aP (fun _ hk => hk.elim) ?aF ?aO ?aB ?aS ?aL ?_; (case aP => exact k51_mkM _ _ _ (⟨(rd_T51 t107 (ji24)).f0, (rd_T51 t107 (ji24)).f1⟩ : S51)); (case aB => exact (by repeat (first | (with_reducible first | exact HB.out | apply below_alloc | apply pw_below_drewN | apply below_drew1) | exact HB.out))); (case aF => exact (fun k_ hk => Kd.fresh' (Kd.R_lt (by (with_reducible repeat (first | apply Kd.R_alloc | apply Kd.R_drewN | apply Kd.R_drew)); exact HO_9.out)) k_ hk)); (case aO => exact (by (with_reducible repeat (first | apply Kd.R_alloc | apply Kd.R_drewN | apply Kd.R_drew)); exact HO_12.out)); (case aS => exact (below_size (by repeat (first | (with_reducible first | exact HB.out | apply below_alloc | apply pw_below_drewN | apply below_drew1) | exact HB.out)))); (case aL => have := LMc27.out; omega); intro v117 w28 ho hb hg hat; rw [← Ny116.out] at ho; have n0_ := Aside0.mk (Kd.R_after (ok := (fun _ => True)) (by (with_reducible repeat (first | apply Kd.R_alloc | apply Kd.R_drewN | apply Kd.R_drew)); exact Kd.R_mono HO_9.out (fun _ hk => ⟨trivial, hk⟩)) hg hat); have n1_ := Aside0.mk (hb); have n2_ := Aside0.mk (ho); clear HO_9; clear HB; clear HO_12; have HO_9 := n0_; have HB := n1_; have HO118 := n2_; clear n0_ n1_ n2_; clear ho hb hg hat)); try go_wp2_with (first | ((with_reducible refine gate_builtin (b := .append) (xs := #[.tmp 76, .tmp 85]) rfl ?_); (try (refine gate_guard (by rfl) ?_; dsimp only)); at_builtin; refine Kd.R_append k51 (w0 := w) w.heap.size rfl (.tmp 76) (.tmp 85) 48 51 (.agg #[(.int .i64 0), (.int .i64 0)]) 16 rfl Try.underlying48 info51 rfl (by decide) (by omega) u12 x12_2 (⟨(rd_T51 t107 (ji24)).f0, (rd_T51 t107 (ji24)).f1⟩ : S51) [.int .i64 ((rd_T51 t107 (ji24)).f0), .int .i64 ((rd_T51 t107 (ji24)).f1)] (fun k_ => some k_ ≠ (.slice (some ad115) t107.length co13 : Value).ownBlock) (fun _ => False) rfl rfl ?aP (fun _ hk => hk.elim) ?aF ?aO ?aB ?aS ?aL ?_; (case aP => exact k51_mkM _ _ _ (⟨(rd_T51 t107 (ji24)).f0, (rd_T51 t107 (ji24)).f1⟩ : S51)); (case aB => exact (by repeat (first | (with_reducible first | exact HB.out | apply below_alloc | apply pw_below_drewN | apply below_drew1) | exact HB.out))); (case aF => exact (fun k_ hk => Kd.fresh' (Kd.R_lt (by (with_reducible repeat (first | apply Kd.R_alloc | apply Kd.R_drewN | apply Kd.R_drew)); exact HO_9.out)) k_ hk)); (case aO => exact (by (with_reducible repeat (first | apply Kd.R_alloc | apply Kd.R_drewN | apply Kd.R_drew)); exact HO_12.out)); (case aS => exact (below_size (by repeat (first | (with_reducible first | exact HB.out | apply below_alloc | apply pw_below_drewN | apply below_drew1) | exact HB.out)))); (case aL => have := LMc27.out; omega); intro v117 w28 ho hb hg hat; rw [← Ny116.out] at ho; have n0_ := Aside0.mk (Kd.R_after (ok := (fun _ => True)) (by (with_reducible repeat (first | apply Kd.R_alloc | apply Kd.R_drewN | apply Kd.R_drew)); exact Kd.R_mono HO_9.out (fun _ hk => ⟨trivial, hk⟩)) hg hat); have n1_ := Aside0.mk (hb); have n2_ := Aside0.mk (ho); clear HO_9; clear HB; clear HO_12; have HO_9 := n0_; have HB := n1_; have HO118 := n2_; clear n0_ n1_ n2_; clear ho hb hg hat)))
                                go_roundg k2
                                case measure => have := HK1.out; have := HK2.out; omega
                                case rel => exact ⟨(y116), (wrap64 (x14_2 + 1)), (by first | rfl | (simp; done) | (simp [*]; done)), H', ⟨by have := HK1.out; have := HK2.out; omega⟩, ⟨by (with_reducible repeat (first | apply Kd.R_alloc | apply Kd.R_drewN | apply Kd.R_drew)); exact Kd.R_mono HO_9.out (fun _ hk => hk.2)⟩, ⟨by (with_reducible repeat (first | apply Kd.R_alloc | apply Kd.R_drewN | apply Kd.R_drew)); exact HO118.out⟩, ⟨by repeat (first | (with_reducible first | exact HB.out | apply below_alloc | apply pw_below_drewN | apply below_drew1) | exact HB.out)⟩⟩
                              · rw [if_neg c27] at H
                                exact absurd H (by simp)
                            · rw [if_neg c26] at H
                              exact absurd H (by simp)
                          · rw [if_neg c25] at H
                            exact absurd H (by simp)
                      · rw [if_neg c22] at H
                        have c22b0 : decide (x14_2 < t103) = false := decide_eq_false c22
                        clear c22
                        replace H := Option.bind_eq_some_iff.mp H
                        obtain ⟨⟨t119, t120⟩, A290, H⟩ := H
                        replace H : ((impl_Join.f k2 t107).bind fun bt121 => (if t120 = true then (if bt121.2 = true then (if t119 = t101 then (some (bt121.1 == t101)) else (none)) else (none)) else (none))) = some r := H
                        have A29 := Aside0.mk A290
                        clear A290
                        replace H := Option.bind_eq_some_iff.mp H
                        obtain ⟨⟨t121, t122⟩, A300, H⟩ := H
                        replace H : (if t120 = true then (if t122 = true then (if t119 = t101 then (some (t121 == t101)) else (none)) else (none)) else (none)) = some r := H
                        have A30 := Aside0.mk A300
                        clear A300
                        by_cases c31 : t120 = true
                        · subst c31
                          have H1 : (if t122 = true then (if t119 = t101 then (some (t121 == t101)) else (none)) else (none)) = some r := by rw [if_pos rfl] at H; exact H
                          clear H
                          have H := H1
                          clear H1
                          by_cases c32 : t122 = true
                          · subst c32
                            have H1 : (if t119 = t101 then (some (t121 == t101)) else (none)) = some r := by rw [if_pos rfl] at H; exact H
                            clear H
                            have H := H1
                            clear H1
                            by_cases c33 : t119 = t101
                            · rw [if_pos c33] at H
                              have c33b0 : (t119 == t101) = true := beq_iff_eq.mpr c33
                              have c33b1 : (t119 != t101) = false := bne_eq_false_iff_eq.mpr c33
                              clear c33
                              obtain rfl := Option.some.inj H
                              obtain ⟨Ao34, co34, eo34⟩ := Kd.R_slice HO_12.out
                              subst eo34
                              go_wp2_with (first | (go_at_call 35; (with_reducible refine (impl_Join.calls k2 _ _ x12_2 t119 true _ ?side1 ?side2 A29.out).mono ?_); (case side1 => repeat (first | exact (Kd.R_reads' HO_12.out).2.2 | (with_reducible refine Kd.C_alloc ?_ _) | (with_reducible refine Kd.C_drewN ?_ _) | (with_reducible refine Kd.C_drew ?_))); (case side2 => exact (Kd.R_reads' HO_12.out).2.1); rintro e w35 ⟨rfl, hb⟩; have n0_ := Aside0.mk (Kd.R_below (by (with_reducible repeat (first | apply Kd.R_alloc | apply Kd.R_drewN | apply Kd.R_drew)); exact HO_9.out) hb); have n1_ := Aside0.mk (Kd.R_below (by (with_reducible repeat (first | apply Kd.R_alloc | apply Kd.R_drewN | apply Kd.R_drew)); exact HO_12.out) hb); have n2_ := Aside0.mk (below_step (by repeat (first | (with_reducible first | exact HB.out | apply below_alloc | apply pw_below_drewN | apply below_drew1) | exact HB.out)) hb); clear HO_9; clear HO_12; clear HB; have HO_9 := n0_; have HO_12 := n1_; have HB := n2_; clear n0_ n1_ n2_; (try clear hb); (try clear hb2); (try clear hk); (try clear hi)) | (go_at_call 35; (with_reducible refine (impl_Join.calls k2 _ _ t107 t121 true _ ?side1 ?side2 A30.out).mono ?_); (case side1 => repeat (first | exact (Kd.R_reads' HO_9.out).2.2 | (with_reducible refine Kd.C_alloc ?_ _) | (with_reducible refine Kd.C_drewN ?_ _) | (with_reducible refine Kd.C_drew ?_))); (case side2 => exact (Kd.R_reads' HO_9.out).2.1); rintro e w36 ⟨rfl, hb⟩; have n0_ := Aside0.mk (Kd.R_below (by (with_reducible repeat (first | apply Kd.R_alloc | apply Kd.R_drewN | apply Kd.R_drew)); exact HO_9.out) hb); have n1_ := Aside0.mk (Kd.R_below (by (with_reducible repeat (first | apply Kd.R_alloc | apply Kd.R_drewN | apply Kd.R_drew)); exact HO_12.out) hb); have n2_ := Aside0.mk (below_step (by repeat (first | (with_reducible first | exact HB.out | apply below_alloc | apply pw_below_drewN | apply below_drew1) | exact HB.out)) hb); clear HO_9; clear HO_12; clear HB; have HO_9 := n0_; have HO_12 := n1_; have HB := n2_; clear n0_ n1_ n2_; (try clear hb); (try clear hb2); (try clear hk); (try clear hi)))
                              repeat (go_quiet (first | (go_at_call 35; (with_reducible refine (impl_Join.calls k2 _ _ x12_2 t119 true _ ?side1 ?side2 A29.out).mono ?_); (case side1 => repeat (first | exact (Kd.R_reads' HO_12.out).2.2 | (with_reducible refine Kd.C_alloc ?_ _) | (with_reducible refine Kd.C_drewN ?_ _) | (with_reducible refine Kd.C_drew ?_))); (case side2 => exact (Kd.R_reads' HO_12.out).2.1); rintro e w35 ⟨rfl, hb⟩; have n0_ := Aside0.mk (Kd.R_below (by (with_reducible repeat (first | apply Kd.R_alloc | apply Kd.R_drewN | apply Kd.R_drew)); exact HO_9.out) hb); have n1_ := Aside0.mk (Kd.R_below (by (with_reducible repeat (first | apply Kd.R_alloc | apply Kd.R_drewN | apply Kd.R_drew)); exact HO_12.out) hb); have n2_ := Aside0.mk (below_step (by repeat (first | (with_reducible first | exact HB.out | apply below_alloc | apply pw_below_drewN | apply below_drew1) | exact HB.out)) hb); clear HO_9; clear HO_12; clear HB; have HO_9 := n0_; have HO_12 := n1_; have HB := n2_; clear n0_ n1_ n2_; (try clear hb); (try clear hb2); (try clear hk); (try clear hi)) | (go_at_call 35; (with_reducible refine (impl_Join.calls k2 _ _ t107 t121 true _ ?side1 ?side2 A30.out).mono ?_); (case side1 => repeat (first | exact (Kd.R_reads' HO_9.out).2.2 | (with_reducible refine Kd.C_alloc ?_ _) | (with_reducible refine Kd.C_drewN ?_ _) | (with_reducible refine Kd.C_drew ?_))); (case side2 => exact (Kd.R_reads' HO_9.out).2.1); rintro e w36 ⟨rfl, hb⟩; have n0_ := Aside0.mk (Kd.R_below (by (with_reducible repeat (first | apply Kd.R_alloc | apply Kd.R_drewN | apply Kd.R_drew)); exact HO_9.out) hb); have n1_ := Aside0.mk (Kd.R_below (by (with_reducible repeat (first | apply Kd.R_alloc | apply Kd.R_drewN | apply Kd.R_drew)); exact HO_12.out) hb); have n2_ := Aside0.mk (below_step (by repeat (first | (with_reducible first | exact HB.out | apply below_alloc | apply pw_below_drewN | apply below_drew1) | exact HB.out)) hb); clear HO_9; clear HO_12; clear HB; have HO_9 := n0_; have HO_12 := n1_; have HB := n2_; clear n0_ n1_ n2_; (try clear hb); (try clear hb2); (try clear hk); (try clear hi))); try go_wp2_with (first | (go_at_call 35; (with_reducible refine (impl_Join.calls k2 _ _ x12_2 t119 true _ ?side1 ?side2 A29.out).mono ?_); (case side1 => repeat (first | exact (Kd.R_reads' HO_12.out).2.2 | (with_reducible refine Kd.C_alloc ?_ _) | (with_reducible refine Kd.C_drewN ?_ _) | (with_reducible refine Kd.C_drew ?_))); (case side2 => exact (Kd.R_reads' HO_12.out).2.1); rintro e w35 ⟨rfl, hb⟩; have n0_ := Aside0.mk (Kd.R_below (by (with_reducible repeat (first | apply Kd.R_alloc | apply Kd.R_drewN | apply Kd.R_drew)); exact HO_9.out) hb); have n1_ := Aside0.mk (Kd.R_below (by (with_reducible repeat (first | apply Kd.R_alloc | apply Kd.R_drewN | apply Kd.R_drew)); exact HO_12.out) hb); have n2_ := Aside0.mk (below_step (by repeat (first | (with_reducible first | exact HB.out | apply below_alloc | apply pw_below_drewN | apply below_drew1) | exact HB.out)) hb); clear HO_9; clear HO_12; clear HB; have HO_9 := n0_; have HO_12 := n1_; have HB := n2_; clear n0_ n1_ n2_; (try clear hb); (try clear hb2); (try clear hk); (try clear hi)) | (go_at_call 35; (with_reducible refine (impl_Join.calls k2 _ _ t107 t121 true _ ?side1 ?side2 A30.out).mono ?_); (case side1 => repeat (first | exact (Kd.R_reads' HO_9.out).2.2 | (with_reducible refine Kd.C_alloc ?_ _) | (with_reducible refine Kd.C_drewN ?_ _) | (with_reducible refine Kd.C_drew ?_))); (case side2 => exact (Kd.R_reads' HO_9.out).2.1); rintro e w36 ⟨rfl, hb⟩; have n0_ := Aside0.mk (Kd.R_below (by (with_reducible repeat (first | apply Kd.R_alloc | apply Kd.R_drewN | apply Kd.R_drew)); exact HO_9.out) hb); have n1_ := Aside0.mk (Kd.R_below (by (with_reducible repeat (first | apply Kd.R_alloc | apply Kd.R_drewN | apply Kd.R_drew)); exact HO_12.out) hb); have n2_ := Aside0.mk (below_step (by repeat (first | (with_reducible first | exact HB.out | apply below_alloc | apply pw_below_drewN | apply below_drew1) | exact HB.out)) hb); clear HO_9; clear HO_12; clear HB; have HO_9 := n0_; have HO_12 := n1_; have HB := n2_; clear n0_ n1_ n2_; (try clear hb); (try clear hb2); (try clear hk); (try clear hi))))
                              go_ret
                              exact ⟨by first | rfl | (simp [errW_none, errW_some] <;> rfl) | (simp [*, errW_none, errW_some] <;> rfl), by repeat (first | (with_reducible first | exact HB.out | apply below_alloc | apply pw_below_drewN | apply below_drew1) | exact HB.out)⟩
                            · rw [if_neg c33] at H
                              exact absurd H (by simp)
                          · replace c32 := Bool.eq_false_iff.mpr c32
                            subst c32
                            have H1 : (none) = some r := by rw [if_neg (show ¬ (false = true) by decide)] at H; exact H
                            clear H
                            have H := H1
                            clear H1
                            exact absurd H (by simp)
                        · replace c31 := Bool.eq_false_iff.mpr c31
                          subst c31
                          have H1 : (none) = some r := by rw [if_neg (show ¬ (false = true) by decide)] at H; exact H
                          clear H
                          have H := H1
                          clear H1
                          exact absurd H (by simp)
      · rw [if_neg c8] at H
        exact absurd H (by simp)
end Go.Proofs.Ytccbjchlcelkgaa.Pr
namespace Go.Proofs.Ytccbjchlcelkgaa.Pr
open Go.RowKit Go.Proofs.Ytccbjchlcelkgaa.Read Go.Proofs.YtccbjchlcelkgaaW.PrintWords
set_option linter.unusedVariables false
def laws_FnShared.Pure : Prop := ∀ (l0 : (List Int)) (l1 : (List Int)), (okL okB) l0 → (okL okB) l1 → ∃ k, laws_FnShared.f k l0 l1 = some true
end Go.Proofs.Ytccbjchlcelkgaa.Pr
namespace Go.Proofs.Ytccbjchlcelkgaa.Lagr
set_option linter.unusedVariables false
set_option linter.unusedSectionVars false
abbrev FQ := Fin 1073741789
def pwF (x : FQ) : Nat → FQ
  | 0 => 1
  | n + 1 => x * pwF x n
section
variable (inv : FQ → FQ)
def Pp (m : FQ) : List FQ → FQ
  | [] => 1
  | x :: T => inv (x - m) * Pp m T
def G : List FQ → (FQ → FQ) → FQ
  | [], _ => 0
  | m :: T, h => h m * Pp inv m T + G T (fun x => h x * inv (m - x))
def P2 (m : FQ) : List FQ → FQ
  | [] => 1
  | x :: T => x * inv (x - m) * P2 m T
def Hh : List FQ → (FQ → FQ) → FQ
  | [], _ => 0
  | m :: T, h => h m * P2 inv m T + Hh T (fun x => h x * (m * inv (m - x)))
def prodL : List FQ → FQ
  | [] => 1
  | x :: T => x * prodL T
theorem G_congr : ∀ (T : List FQ) (h g : FQ → FQ), (∀ x ∈ T, h x = g x) → G inv T h = G inv T g
  | [], _, _, _ => rfl
  | m :: T, h, g, e => by
    unfold G
    rw [e m List.mem_cons_self, G_congr T (fun x => h x * inv (m - x)) (fun x => g x * inv (m - x)) (fun x hx => by rw [e x (List.mem_cons_of_mem _ hx)])]
theorem G_add : ∀ (T : List FQ) (h g : FQ → FQ), G inv T (fun x => h x + g x) = G inv T h + G inv T g
  | [], _, _ => by unfold G; grind
  | m :: T, h, g => by
    unfold G
    rw [G_congr inv T (fun x => (h x + g x) * inv (m - x)) (fun x => h x * inv (m - x) + g x * inv (m - x)) (fun x _ => by grind), G_add T]
    grind
theorem G_smul (c : FQ) : ∀ (T : List FQ) (h : FQ → FQ), G inv T (fun x => c * h x) = c * G inv T h
  | [], _ => by unfold G; grind
  | m :: T, h => by
    unfold G
    rw [G_congr inv T (fun x => c * h x * inv (m - x)) (fun x => c * (h x * inv (m - x))) (fun x _ => by grind), G_smul c T]
    grind
variable (hinv : ∀ a : FQ, a ≠ 0 → a * inv a = 1)
include hinv
theorem G_head (m : FQ) (T : List FQ) (h : FQ → FQ) (hm : m ∉ T) : G inv (m :: T) (fun x => h x * (m - x)) = G inv T h := by
  have e : G inv T (fun x => h x * (m - x) * inv (m - x)) = G inv T h := G_congr inv T _ _ (fun x hx => by
    have hne : m - x ≠ 0 := fun e => hm (by have : m = x := by grind
                                            rw [this]; exact hx)
    have := hinv (m - x) hne
    grind)
  show h m * (m - m) * Pp inv m T + G inv T (fun x => h x * (m - x) * inv (m - x)) = _
  rw [e]
  grind
omit hinv in
theorem G_swap (p q : FQ) (T : List FQ) (h : FQ → FQ) : G inv (p :: q :: T) h = G inv (q :: p :: T) h := by
  show h p * (inv (q - p) * Pp inv p T) + (h q * inv (p - q) * Pp inv q T + G inv T (fun x => h x * inv (p - x) * inv (q - x))) = h q * (inv (p - q) * Pp inv q T) + (h p * inv (q - p) * Pp inv p T + G inv T (fun x => h x * inv (q - x) * inv (p - x)))
  rw [G_congr inv T (fun x => h x * inv (p - x) * inv (q - x)) (fun x => h x * inv (q - x) * inv (p - x)) (fun x _ => by grind)]
  grind
theorem G_sub (p q : FQ) (T : List FQ) (h : FQ → FQ) (hd : (p :: q :: T).Nodup) : (p - q) * G inv (p :: q :: T) h = G inv (q :: T) h - G inv (p :: T) h := by
  have hp : p ∉ q :: T := (List.nodup_cons.1 hd).1
  have hq0 : q ∉ T := (List.nodup_cons.1 (List.nodup_cons.1 hd).2).1
  have hq : q ∉ p :: T := by
    intro e
    rcases List.mem_cons.1 e with e | e
    · exact hp (by rw [e]; exact List.mem_cons_self)
    · exact hq0 e
  have e1 := G_head inv hinv p (q :: T) h hp
  have e2 := G_head inv hinv q (p :: T) h hq
  rw [G_swap] at e2
  rw [← e1, ← e2, ← G_smul]
  rw [G_congr inv (p :: q :: T) (fun x => (p - q) * h x) (fun x => h x * (p - x) + (-1) * (h x * (q - x))) (fun x _ => by grind), G_add, G_smul]
  grind
theorem G_one (n : Nat) : ∀ T : List FQ, T.length = n + 2 → T.Nodup → G inv T (fun _ => 1) = 0 := by
  induction n with
  | zero =>
    intro T hl hd
    match T, hl, hd with
    | [p, q], _, hd =>
      have h := G_sub inv hinv p q [] (fun _ => 1) hd
      have hne : p - q ≠ 0 := fun e => (List.nodup_cons.1 hd).1 (by have : p = q := by grind
                                                                    rw [this]; exact List.mem_cons_self)
      have hi := hinv _ hne
      have e : (p - q) * G inv [p, q] (fun _ => 1) = 0 := by
        rw [h]
        show (1 * 1 + 0 : FQ) - (1 * 1 + 0) = 0
        grind
      grind
  | succ n ih =>
    intro T hl hd
    match T, hl, hd with
    | p :: q :: R, hl, hd =>
      have h := G_sub inv hinv p q R (fun _ => 1) hd
      have hd1 : (q :: R).Nodup := (List.nodup_cons.1 hd).2
      have hd2 : (p :: R).Nodup := List.nodup_cons.2 ⟨fun e => (List.nodup_cons.1 hd).1 (List.mem_cons_of_mem _ e), (List.nodup_cons.1 hd1).2⟩
      have hl1 : R.length = n + 1 := by simp at hl; omega
      have h1 := ih (q :: R) (by simp [hl1]) hd1
      have h2 := ih (p :: R) (by simp [hl1]) hd2
      have hne : p - q ≠ 0 := fun e => (List.nodup_cons.1 hd).1 (by have : p = q := by grind
                                                                    rw [this]; exact List.mem_cons_self)
      have hi := hinv _ hne
      rw [h1, h2] at h
      grind
theorem G_pow (j : Nat) : ∀ T : List FQ, j + 2 ≤ T.length → T.Nodup → G inv T (fun x => pwF x j) = 0 := by
  induction j with
  | zero =>
    intro T hl hd
    rw [G_congr inv T (fun x => pwF x 0) (fun _ => 1) (fun x _ => rfl)]
    exact G_one inv hinv (T.length - 2) T (by omega) hd
  | succ j ih =>
    intro T hl hd
    match T, hl, hd with
    | p :: R, hl, hd =>
      have hl1 : j + 2 ≤ R.length := by simp at hl; omega
      have h1 := ih (p :: R) (by simp; omega) hd
      have h2 := ih R hl1 (List.nodup_cons.1 hd).2
      have h3 := G_head inv hinv p R (fun x => pwF x j) (List.nodup_cons.1 hd).1
      rw [G_congr inv (p :: R) (fun x => pwF x (j + 1)) (fun x => p * pwF x j + (-1) * (pwF x j * (p - x))) (fun x _ => by show x * pwF x j = _; grind), G_add, G_smul, G_smul, h1, h3, h2]
      grind
omit hinv in
theorem Hh_congr : ∀ (T : List FQ) (h g : FQ → FQ), (∀ x ∈ T, h x = g x) → Hh inv T h = Hh inv T g
  | [], _, _, _ => rfl
  | m :: T, h, g, e => by
    unfold Hh
    rw [e m List.mem_cons_self, Hh_congr T (fun x => h x * (m * inv (m - x))) (fun x => g x * (m * inv (m - x))) (fun x hx => by rw [e x (List.mem_cons_of_mem _ hx)])]
omit hinv in
theorem Hh_add : ∀ (T : List FQ) (h g : FQ → FQ), Hh inv T (fun x => h x + g x) = Hh inv T h + Hh inv T g
  | [], _, _ => by unfold Hh; grind
  | m :: T, h, g => by
    unfold Hh
    rw [Hh_congr inv T (fun x => (h x + g x) * (m * inv (m - x))) (fun x => h x * (m * inv (m - x)) + g x * (m * inv (m - x))) (fun x _ => by grind), Hh_add T]
    grind
omit hinv in
theorem Hh_smul (c : FQ) : ∀ (T : List FQ) (h : FQ → FQ), Hh inv T (fun x => c * h x) = c * Hh inv T h
  | [], _ => by unfold Hh; grind
  | m :: T, h => by
    unfold Hh
    rw [Hh_congr inv T (fun x => c * h x * (m * inv (m - x))) (fun x => c * (h x * (m * inv (m - x)))) (fun x _ => by grind), Hh_smul c T]
    grind
omit hinv in
theorem P2_eq (m : FQ) : ∀ T : List FQ, P2 inv m T = prodL T * Pp inv m T
  | [] => by unfold P2 prodL Pp; grind
  | x :: T => by unfold P2 prodL Pp; rw [P2_eq m T]; grind
omit hinv in
theorem Hh_x : ∀ (T : List FQ) (g : FQ → FQ), Hh inv T (fun x => x * g x) = prodL T * G inv T g
  | [], _ => by unfold Hh G; grind
  | m :: T, g => by
    unfold Hh G prodL
    rw [Hh_congr inv T (fun x => x * g x * (m * inv (m - x))) (fun x => x * (m * (g x * inv (m - x)))) (fun x _ => by grind), Hh_x T, G_smul, P2_eq]
    grind
theorem Hh_one : ∀ T : List FQ, T ≠ [] → T.Nodup → Hh inv T (fun _ => 1) = 1
  | [], h, _ => absurd rfl h
  | [m], _, _ => by show (1 * 1 + 0 : FQ) = 1; grind
  | m :: q :: R, _, hd => by
    have hd1 : (q :: R).Nodup := (List.nodup_cons.1 hd).2
    have ih := Hh_one (q :: R) (by simp) hd1
    have h0 := G_one inv hinv R.length (m :: q :: R) (by simp) hd
    have hG : G inv (m :: q :: R) (fun _ => 1) = 1 * Pp inv m (q :: R) + G inv (q :: R) (fun x => 1 * inv (m - x)) := rfl
    rw [hG] at h0
    have e1 : Hh inv (m :: q :: R) (fun _ => 1) = 1 * P2 inv m (q :: R) + Hh inv (q :: R) (fun x => 1 * (m * inv (m - x))) := rfl
    rw [e1, Hh_congr inv (q :: R) (fun x => 1 * (m * inv (m - x))) (fun x => 1 + x * (1 * inv (m - x))) (fun x hx => by
      have hne : m - x ≠ 0 := fun e => (List.nodup_cons.1 hd).1 (by have : m = x := by grind
                                                                    rw [this]; exact hx)
      have := hinv _ hne
      grind), Hh_add, Hh_x, ih, P2_eq]
    grind
theorem Hh_pow (j : Nat) (T : List FQ) (hl : j + 2 ≤ T.length) (hd : T.Nodup) : Hh inv T (fun x => pwF x (j + 1)) = 0 := by
  rw [Hh_congr inv T (fun x => pwF x (j + 1)) (fun x => x * pwF x j) (fun x _ => rfl), Hh_x, G_pow inv hinv j T hl hd]
  grind
omit hinv in
def polS (x : FQ) : List FQ → Nat → FQ
  | [], _ => 0
  | a :: cs, j => a * pwF x (j + 1) + polS x cs (j + 1)
theorem Hh_pol (T : List FQ) (hd : T.Nodup) : ∀ (cs : List FQ) (j : Nat), j + cs.length + 1 ≤ T.length → Hh inv T (fun x => polS x cs j) = 0
  | [], j, _ => by
    rw [Hh_congr inv T (fun x => polS x [] j) (fun x => 0 * 1) (fun x _ => by unfold polS; grind), Hh_smul]
    grind
  | a :: cs, j, hl => by
    simp only [List.length_cons] at hl
    rw [Hh_congr inv T (fun x => polS x (a :: cs) j) (fun x => a * pwF x (j + 1) + polS x cs (j + 1)) (fun x _ => rfl), Hh_add, Hh_smul, Hh_pow inv hinv j T (by omega) hd, Hh_pol T hd cs (j + 1) (by omega)]
    grind
theorem shares_back (T : List FQ) (hd : T.Nodup) (s : FQ) (cs : List FQ) (hl : cs.length + 1 ≤ T.length) : Hh inv T (fun x => s + polS x cs 0) = s := by
  rw [Hh_add, Hh_pol inv hinv T hd cs 0 (by omega), Hh_congr inv T (fun _ => s) (fun _ => s * 1) (fun x _ => by grind), Hh_smul, Hh_one inv hinv T (by intro e; rw [e] at hl; simp at hl) hd]
  grind
end
def chooseN : Nat → Nat → Nat
  | _, 0 => 1
  | 0, _ + 1 => 0
  | n + 1, k + 1 => chooseN n k + chooseN n (k + 1)
theorem choose_gt : ∀ n k, n < k → chooseN n k = 0
  | 0, 0, h => absurd h (Nat.lt_irrefl 0)
  | 0, k + 1, _ => rfl
  | n + 1, 0, h => absurd h (Nat.not_lt_zero _)
  | n + 1, k + 1, h => by
    show chooseN n k + chooseN n (k + 1) = 0
    rw [choose_gt n k (by omega), choose_gt n (k + 1) (by omega)]
theorem choose_self : ∀ n, chooseN n n = 1
  | 0 => rfl
  | n + 1 => by
    show chooseN n n + chooseN n (n + 1) = 1
    rw [choose_self n, choose_gt n (n + 1) (by omega)]
theorem choose_mul : ∀ n k, (k + 1) * chooseN (n + 1) (k + 1) = (n + 1) * chooseN n k
  | 0, 0 => rfl
  | 0, k + 1 => by
    rw [choose_gt 1 (k + 1 + 1) (by omega), choose_gt 0 (k + 1) (by omega)]
    omega
  | n + 1, 0 => by
    have h : chooseN (n + 1) 1 = n + 1 := by
      have h := choose_mul n 0
      rw [show chooseN n 0 = 1 from by cases n <;> rfl] at h
      simpa using h
    have h1 : chooseN (n + 1 + 1) 1 = chooseN (n + 1) 0 + chooseN (n + 1) 1 := rfl
    have h2 : chooseN (n + 1) 0 = 1 := rfl
    show (0 + 1) * chooseN (n + 1 + 1) 1 = (n + 1 + 1) * chooseN (n + 1) 0
    rw [h1, h2, h]
    omega
  | n + 1, k + 1 => by
    have h1 := choose_mul n k
    have h2 := choose_mul n (k + 1)
    have e1 : chooseN (n + 1 + 1) (k + 1 + 1) = chooseN (n + 1) (k + 1) + chooseN (n + 1) (k + 1 + 1) := rfl
    have e2 : chooseN (n + 1) (k + 1) = chooseN n k + chooseN n (k + 1) := rfl
    rw [e1]
    have h3 : (k + 1 + 1) * chooseN (n + 1) (k + 1 + 1) = (n + 1) * chooseN n (k + 1) := h2
    have h4 : (k + 1 + 1) * (chooseN (n + 1) (k + 1) + chooseN (n + 1) (k + 1 + 1)) = (k + 1) * chooseN (n + 1) (k + 1) + chooseN (n + 1) (k + 1) + (k + 1 + 1) * chooseN (n + 1) (k + 1 + 1) := by grind
    rw [h4, h1, h3]
    have h5 : (n + 1 + 1) * chooseN (n + 1) (k + 1) = (n + 1) * (chooseN n k + chooseN n (k + 1)) + chooseN (n + 1) (k + 1) := by rw [← e2]; grind
    rw [h5]
    grind
def binS (n a : Nat) : Nat → Nat
  | 0 => 0
  | m + 1 => binS n a m + chooseN n m * a ^ m
theorem bin_step (n a : Nat) : ∀ m, binS (n + 1) a (m + 1) = binS n a (m + 1) + a * binS n a m
  | 0 => by
    show 0 + chooseN (n + 1) 0 * a ^ 0 = 0 + chooseN n 0 * a ^ 0 + a * 0
    rw [show chooseN (n + 1) 0 = 1 from rfl, show chooseN n 0 = 1 from by cases n <;> rfl]
    omega
  | m + 1 => by
    have ih := bin_step n a m
    have e1 : binS (n + 1) a (m + 1 + 1) = binS (n + 1) a (m + 1) + chooseN (n + 1) (m + 1) * a ^ (m + 1) := rfl
    have e2 : binS n a (m + 1 + 1) = binS n a (m + 1) + chooseN n (m + 1) * a ^ (m + 1) := rfl
    have e3 : binS n a (m + 1) = binS n a m + chooseN n m * a ^ m := rfl
    have e4 : chooseN (n + 1) (m + 1) = chooseN n m + chooseN n (m + 1) := rfl
    rw [e1, ih, e2, e4, Nat.pow_succ]
    have e5 : a * binS n a (m + 1) = a * binS n a m + a * (chooseN n m * a ^ m) := by rw [e3]; grind
    rw [e5]
    grind
theorem bin_all (a : Nat) : ∀ n, binS n a (n + 1) = (a + 1) ^ n
  | 0 => by
    show 0 + 1 * a ^ 0 = (a + 1) ^ 0
    rw [Nat.pow_zero, Nat.pow_zero]
  | n + 1 => by
    rw [bin_step, bin_all a n]
    have e2 : binS n a (n + 1 + 1) = binS n a (n + 1) + chooseN n (n + 1) * a ^ (n + 1) := rfl
    rw [e2, bin_all a n, choose_gt n (n + 1) (by omega), Nat.pow_succ]
    grind
theorem choose_div (p : Nat) (hp : ∀ k, 0 < k → k < p → Nat.gcd k p = 1) (k : Nat) (h0 : 0 < k) (h1 : k < p) : p ∣ chooseN p k := by
  obtain ⟨k, rfl⟩ : ∃ m, k = m + 1 := ⟨k - 1, by omega⟩
  obtain ⟨n, rfl⟩ : ∃ m, p = m + 1 := ⟨p - 1, by omega⟩
  have h := choose_mul n k
  have hc : Nat.Coprime (n + 1) (k + 1) := by
    show Nat.gcd (n + 1) (k + 1) = 1
    rw [Nat.gcd_comm]; exact hp (k + 1) h0 h1
  exact hc.dvd_of_dvd_mul_left (by rw [h]; exact Nat.dvd_mul_right _ _)
theorem bin_mod (p a : Nat) (hp : ∀ k, 0 < k → k < p → Nat.gcd k p = 1) : ∀ m, 0 < m → m ≤ p → binS p a m % p = 1 % p
  | 0, h, _ => absurd h (Nat.lt_irrefl 0)
  | 1, _, _ => by
    show (0 + chooseN p 0 * a ^ 0) % p = 1 % p
    rw [show chooseN p 0 = 1 from by cases p <;> rfl, Nat.pow_zero]
  | m + 1 + 1, _, h => by
    have ih := bin_mod p a hp (m + 1) (by omega) (by omega)
    show (binS p a (m + 1) + chooseN p (m + 1) * a ^ (m + 1)) % p = 1 % p
    obtain ⟨c, hc⟩ := choose_div p hp (m + 1) (by omega) (by omega)
    rw [hc, Nat.mul_assoc, Nat.add_mul_mod_self_left]
    exact ih
theorem fermat_nat (p : Nat) (h1 : 0 < p) (hp : ∀ k, 0 < k → k < p → Nat.gcd k p = 1) : ∀ a : Nat, a ^ p % p = a % p
  | 0 => by rw [Nat.zero_pow h1]
  | a + 1 => by
    have ih := fermat_nat p h1 hp a
    rw [← bin_all a p]
    show (binS p a p + chooseN p p * a ^ p) % p = (a + 1) % p
    rw [choose_self, Nat.one_mul, Nat.add_mod, ih, bin_mod p a hp p h1 (Nat.le_refl _), ← Nat.add_mod, Nat.add_comm]
theorem fermat_one (p : Nat) (h1 : 1 < p) (hp : ∀ k, 0 < k → k < p → Nat.gcd k p = 1) (a : Nat) (h0 : 0 < a) (ha : a < p) : a * a ^ (p - 2) % p = 1 := by
  have hf := fermat_nat p (by omega) hp a
  have e : a ^ p = a * (a * a ^ (p - 2)) := by
    rw [← Nat.pow_succ', ← Nat.pow_succ']
    congr 1
    omega
  have hpos : 0 < a * a ^ (p - 2) := Nat.mul_pos h0 (Nat.pow_pos h0)
  have hd : p ∣ a * (a * a ^ (p - 2) - 1) := by
    rw [Nat.mul_sub, ← e, Nat.mul_one]
    exact Nat.dvd_of_mod_eq_zero (Nat.sub_mod_eq_zero_of_mod_eq hf)
  have hc : Nat.Coprime p a := by
    show Nat.gcd p a = 1
    rw [Nat.gcd_comm]; exact hp a h0 ha
  have hd2 : p ∣ a * a ^ (p - 2) - 1 := hc.dvd_of_dvd_mul_left hd
  obtain ⟨c, hc2⟩ := hd2
  rw [show a * a ^ (p - 2) = 1 + p * c by omega, Nat.add_mul_mod_self_left, Nat.mod_eq_of_lt h1]
end Go.Proofs.Ytccbjchlcelkgaa.Lagr
namespace Go.Proofs.Ytccbjchlcelkgaa.Pr
open Go.RowKit Go.Proofs.Ytccbjchlcelkgaa.Read Go.Proofs.YtccbjchlcelkgaaW.PrintWords
theorem w64 {n : Int} (h0 : -9223372036854775808 ≤ n) (h1 : n ≤ 9223372036854775807) : wrap64 n = n := by unfold wrap64; omega
theorem rd_nat {l : List Int} {i : Nat} (h : i < l.length) : rd l (i : Int) = l[i] := by
  simp [rd, List.getD_eq_getElem?_getD, List.getElem?_eq_getElem h]
end Go.Proofs.Ytccbjchlcelkgaa.Pr
namespace Go.Proofs.Ytccbjchlcelkgaa.Pr
open Go.RowKit Go.Proofs.YtccbjchlcelkgaaW.PrintWords Go.Proofs.YtccbjchlcelkgaaW.PrintLast Go.Proofs.YtccbjchlcelkgaaW.PrintMore
attribute [local go_sem] max2_int min2_int max_two min_two max_three min_three max_four min_four
set_option linter.unusedVariables false
set_option linter.unusedSimpArgs false
end Go.Proofs.Ytccbjchlcelkgaa.Pr
namespace Go.Proofs.Ytccbjchlcelkgaa.Pr
open Go.RowKit Go.Proofs.Ytccbjchlcelkgaa.Read Go.Proofs.YtccbjchlcelkgaaW.PrintWords
def pwm (b : Int) (e : Nat) : Int := b ^ e % 2147483579
theorem pow_emod' (a m : Int) (n : Nat) : (a % m) ^ n % m = a ^ n % m := by
  induction n with
  | zero => simp
  | succ n ih => rw [Int.pow_succ, Int.pow_succ, Int.mul_emod, ih, Int.emod_emod, ← Int.mul_emod]
theorem pow_double (x : Int) (h : Nat) : x ^ (2 * h) = (x * x) ^ h := by
  induction h with
  | zero => simp
  | succ h ih => rw [show 2 * (h + 1) = 2 * h + 1 + 1 by omega, Int.pow_succ, Int.pow_succ, ih, Int.pow_succ, Int.mul_assoc]
theorem and1 (e : Nat) (he : e < 9223372036854775808) : Go.bits .and .i64 (e : Int) 1 = ((e % 2 : Nat) : Int) := by
  have h1 : (BitVec.ofInt 64 (e : Int)).toNat = e := by
    rw [BitVec.ofInt_natCast, BitVec.toNat_ofNat]; exact Nat.mod_eq_of_lt (by omega)
  have h : ((BitVec.ofInt 64 (e : Int)) &&& (BitVec.ofInt 64 1)).toNat = e % 2 := by
    rw [BitVec.toNat_and, h1]
    exact Nat.and_one_is_mod e
  have e0 : Go.bits .and .i64 (e : Int) 1 = IntKind.i64.wrap ((((BitVec.ofInt 64 (e : Int)) &&& (BitVec.ofInt 64 1)).toNat : Nat) : Int) := rfl
  rw [e0, h]
  exact IntWalk.i64_in _ (by omega)
attribute [irreducible] pwm
end Go.Proofs.Ytccbjchlcelkgaa.Pr
namespace Go.Proofs.Ytccbjchlcelkgaa.Pr
open Go.RowKit Go.Proofs.Ytccbjchlcelkgaa.Read Go.Proofs.YtccbjchlcelkgaaW.PrintWords
def inP (a : List Int) : Prop := a.length = 4 ∧ ∀ j, j < 4 → 0 ≤ a.getD j 0 ∧ a.getD j 0 < 2147483579
theorem inP_start : inP [11, 22, 33, 44] := ⟨rfl, by decide⟩
theorem inP_mix {a : List Int} (h : inP a) (x : Int) (hx : 0 ≤ x) : inP (dgMix a x) := ⟨by rw [dgMix, mix_len, h.1], mix_bd a x hx h.1 h.2 4 (by omega)⟩
theorem dgAll_cons (a : List Int) (x : Int) (l : List Int) : dgAll a (x :: l) = dgAll (dgMix a x) l := rfl
theorem mt_at (i : Nat) (h : i < 4) : rd [1103515245, 69069, 1664525, 22695477] (i : Int) = mulT.getD i 0 := by
  match i, h with
  | 0, _ => rfl
  | 1, _ => rfl
  | 2, _ => rfl
  | 3, _ => rfl
theorem rd_getD (l : List Int) (i : Nat) : rd l (i : Int) = l.getD i 0 := by simp [rd]
theorem specMix_step (l : List Int) (h : inP l) (x : Int) (hx : 0 ≤ x ∧ x ≤ 255) (i : Nat) (hi : i < 4) (k : Nat) :
    spec_l2Mix.l0 (k + 1) (mixN l x i) x [1103515245, 69069, 1664525, 22695477] i = spec_l2Mix.l0 k (mixN l x (i + 1)) x [1103515245, 69069, 1664525, 22695477] ((i + 1 : Nat) : Int) := by
  have hlen : (mixN l x i).length = 4 := by rw [mix_len, h.1]
  have b1 := mix_bd l x hx.1 h.1 h.2 i (by omega) i hi
  have b2 := mix_bd l x hx.1 h.1 h.2 i (by omega) ((i + 1) % 4) (by omega)
  have b3 := mulOk i hi
  simp only [spec_l2Mix.l0]
  rw [w64 (n := (i : Int) + 1) (by omega) (by omega)]
  have e6 : Int.tmod ((i : Int) + 1) 4 = ((i + 1) % 4 : Nat) := by rw [Int.tmod_eq_emod_of_nonneg (by omega)]; omega
  rw [e6, mt_at i hi, rd_getD, rd_getD]
  obtain ⟨p1, e1⟩ : ∃ p, p = (mixN l x i).getD i 0 := ⟨_, rfl⟩
  obtain ⟨p2, e2⟩ : ∃ p, p = (mixN l x i).getD ((i + 1) % 4) 0 := ⟨_, rfl⟩
  obtain ⟨p3, e3⟩ : ∃ p, p = mulT.getD i 0 := ⟨_, rfl⟩
  have e5 : mixN l x (i + 1) = (mixN l x i).set i ((p1 * p3 + x + 1 + p2) % 2147483579) := by rw [e1, e2, e3]; rfl
  rw [e5, ← e1, ← e2, ← e3]
  rw [← e1] at b1; rw [← e2] at b2; rw [← e3] at b3
  have b4 := prod_bd b1.1 b1.2 b3.1 b3.2
  rw [if_pos (by omega), if_pos (by omega), if_pos (by omega), if_pos (by simp; omega), if_pos (by omega), if_pos (by omega), w64 (n := p1 * p3) (by omega) (by omega), w64 (n := p1 * p3 + x) (by omega) (by omega), w64 (n := p1 * p3 + x + 1) (by omega) (by omega), w64 (by omega) (by omega), Int.tmod_eq_emod_of_nonneg (by omega), Int.toNat_natCast]
  rfl
theorem specMix_eq (l : List Int) (h : inP l) (x : Int) (hx : 0 ≤ x ∧ x ≤ 255) (k : Nat) (hk : 5 ≤ k) : spec_l2Mix.f k l x = some (dgMix l x) := by
  obtain ⟨k, rfl⟩ : ∃ m, k = m + 5 := ⟨k - 5, by omega⟩
  unfold spec_l2Mix.f
  have e0 := specMix_step l h x hx 0 (by omega) (k + 4)
  have e1 := specMix_step l h x hx 1 (by omega) (k + 3)
  have e2 := specMix_step l h x hx 2 (by omega) (k + 2)
  have e3 := specMix_step l h x hx 3 (by omega) (k + 1)
  have e4 : spec_l2Mix.l0 (k + 1) (mixN l x 4) x [1103515245, 69069, 1664525, 22695477] ((3 + 1 : Nat) : Int) = some (mixN l x 4) := by
    simp only [spec_l2Mix.l0]; rw [if_neg (by omega)]
  exact e0.trans (e1.trans (e2.trans (e3.trans e4)))
theorem tm256 (n : Int) (h : 0 ≤ n) : Int.tmod n 256 % 256 = n % 256 := by rw [Int.tmod_eq_emod_of_nonneg h]; omega
theorem td256 (n : Int) (h : 0 ≤ n) (h2 : n ≤ 9223372036854775807) : wrap64 (Int.tdiv n 256) = n / 256 := by
  rw [Int.tdiv_eq_ediv_of_nonneg h, w64 (by omega) (by omega)]
theorem specBytes_eq (n : Int) (h : 0 ≤ n) (h2 : n ≤ 9223372036854775807) (k : Nat) (hk : 5 ≤ k) : spec_l2Bytes.f k n = some (yb n) := by
  obtain ⟨k, rfl⟩ : ∃ m, k = m + 5 := ⟨k - 5, by omega⟩
  unfold spec_l2Bytes.f
  rw [if_pos (by omega)]
  simp only [Option.bind_some, List.length_replicate]
  simp only [spec_l2Bytes.l0]
  have a1 := td256 n h h2
  have a2 := td256 (n / 256) (by omega) (by omega)
  have a3 := td256 (n / 256 / 256) (by omega) (by omega)
  have w1 : wrap64 ((0 : Int) + 1) = 1 := by unfold wrap64; omega
  have w2 : wrap64 ((1 : Int) + 1) = 2 := by unfold wrap64; omega
  have w3 : wrap64 ((2 : Int) + 1) = 3 := by unfold wrap64; omega
  have w4 : wrap64 ((3 : Int) + 1) = 4 := by unfold wrap64; omega
  rw [w1, w2, w3, w4, a1, a2, a3, tm256 n h, tm256 _ (by omega), tm256 _ (by omega), tm256 _ (by omega)]
  simp [yb, List.replicate]
  omega
theorem specDig_l3 (a : List Int) (h : inP a) : ∀ (k : Nat), 10 ≤ k → spec_l2Digest.l3 k [] a (a.length : Int) 0 = some (a.flatMap yb) := by
  intro k hk
  obtain ⟨k, rfl⟩ : ∃ m, k = m + 10 := ⟨k - 10, by omega⟩
  obtain ⟨hl, hb⟩ := h
  match a, hl with
  | [b0, b1, b2, b3], _ =>
    have h0 := hb 0 (by omega)
    have h1 := hb 1 (by omega)
    have h2 := hb 2 (by omega)
    have h3 := hb 3 (by omega)
    simp only [List.getD_cons_zero, List.getD_cons_succ] at h0 h1 h2 h3
    have w1 : wrap64 ((0 : Int) + 1) = 1 := by unfold wrap64; omega
    have w2 : wrap64 ((1 : Int) + 1) = 2 := by unfold wrap64; omega
    have w3 : wrap64 ((2 : Int) + 1) = 3 := by unfold wrap64; omega
    have w4 : wrap64 ((3 : Int) + 1) = 4 := by unfold wrap64; omega
    have r0 : rd [b0, b1, b2, b3] 0 = b0 := rfl
    have r1 : rd [b0, b1, b2, b3] 1 = b1 := rfl
    have r2 : rd [b0, b1, b2, b3] 2 = b2 := rfl
    have r3 : rd [b0, b1, b2, b3] 3 = b3 := rfl
    simp only [spec_l2Digest.l3, w1, w2, w3, w4, r0, r1, r2, r3]
    rw [specBytes_eq b0 (by omega) (by omega) _ (by omega), specBytes_eq b1 (by omega) (by omega) _ (by omega), specBytes_eq b2 (by omega) (by omega) _ (by omega), specBytes_eq b3 (by omega) (by omega) _ (by omega)]
    simp [yb]
theorem specDig_l2 (d : Nat) : ∀ (a : List Int) (k i : Nat), inP a → i + d = 8 → d + 12 ≤ k → spec_l2Digest.l2 k a i = some ((dgAll a (List.replicate d 0)).flatMap yb) := by
  induction d with
  | zero =>
    intro a k i h hi hk
    obtain ⟨k, rfl⟩ : ∃ m, k = m + 1 := ⟨k - 1, by omega⟩
    simp only [spec_l2Digest.l2]
    rw [if_neg (by omega), specDig_l3 a h k (by omega)]; rfl
  | succ d ih =>
    intro a k i h hi hk
    obtain ⟨k, rfl⟩ : ∃ m, k = m + 1 := ⟨k - 1, by omega⟩
    simp only [spec_l2Digest.l2]
    rw [if_pos (by omega), specMix_eq a h 0 (by omega) k (by omega)]
    simp only [Option.bind_some]
    rw [w64 (by omega) (by omega), show ((i : Int) + 1) = ((i + 1 : Nat) : Int) from rfl, ih (dgMix a 0) k (i + 1) (inP_mix h 0 (by omega)) (by omega) (by omega)]
    rfl
theorem wbyte {x : Int} (h : 0 ≤ x ∧ x ≤ 255) : wrap64 x = x := w64 (by omega) (by omega)
theorem drop_rd {l : List Int} {i : Nat} (h : i < l.length) : l.drop i = rd l i :: l.drop (i + 1) := by rw [List.drop_eq_getElem_cons h, rd_nat h]
theorem specDig_l1 (xs : List Int) (hx : isBytes xs) (hl : xs.length ≤ 1000000000) (d : Nat) : ∀ (a : List Int) (k i : Nat), inP a → i + d = xs.length → d + 24 ≤ k →
    spec_l2Digest.l1 k a xs (xs.length : Int) i = some ((dgAll (dgAll a (xs.drop i)) (List.replicate 8 0)).flatMap yb) := by
  induction d with
  | zero =>
    intro a k i h hi hk
    obtain ⟨k, rfl⟩ : ∃ m, k = m + 1 := ⟨k - 1, by omega⟩
    simp only [spec_l2Digest.l1]
    rw [if_neg (by omega), List.drop_of_length_le (by omega)]
    exact specDig_l2 8 a k 0 h (by omega) (by omega)
  | succ d ih =>
    intro a k i h hi hk
    obtain ⟨k, rfl⟩ : ∃ m, k = m + 1 := ⟨k - 1, by omega⟩
    have hlt : i < xs.length := by omega
    have hb := hx (rd xs i) (rd_mem hlt)
    simp only [spec_l2Digest.l1]
    rw [if_pos (by omega), if_pos (by omega), if_pos (by omega), wbyte hb, specMix_eq a h _ hb k (by omega)]
    simp only [Option.bind_some]
    rw [w64 (by omega) (by omega), show ((i : Int) + 1) = ((i + 1 : Nat) : Int) from rfl, ih _ k (i + 1) (inP_mix h _ hb.1) (by omega) (by omega), drop_rd hlt, dgAll_cons]
theorem specDig_l0 (xs ys : List Int) (hx : isBytes xs) (hl : xs.length ≤ 1000000000) (hly : ys.length ≤ 1000000000) (d : Nat) : ∀ (a : List Int) (k i : Nat), inP a → i + d = xs.length → d + 40 ≤ k →
    spec_l2Digest.l0 k ys a xs (xs.length : Int) i = some ((dgAll (dgAll (dgAll a (xs.drop i)) (yb ys.length)) (List.replicate 8 0)).flatMap yb) := by
  induction d with
  | zero =>
    intro a k i h hi hk
    obtain ⟨k, rfl⟩ : ∃ m, k = m + 1 := ⟨k - 1, by omega⟩
    simp only [spec_l2Digest.l0]
    rw [if_neg (by omega), List.drop_of_length_le (by omega), specBytes_eq _ (by omega) (by omega) k (by omega)]
    exact specDig_l1 (yb ys.length) (yb_bytes _) (by rw [yb_len]; omega) 4 a k 0 h (by rw [yb_len]) (by omega)
  | succ d ih =>
    intro a k i h hi hk
    obtain ⟨k, rfl⟩ : ∃ m, k = m + 1 := ⟨k - 1, by omega⟩
    have hlt : i < xs.length := by omega
    have hb := hx (rd xs i) (rd_mem hlt)
    simp only [spec_l2Digest.l0]
    rw [if_pos (by omega), if_pos (by omega), if_pos (by omega), wbyte hb, specMix_eq a h _ hb k (by omega)]
    simp only [Option.bind_some]
    rw [w64 (by omega) (by omega), show ((i : Int) + 1) = ((i + 1 : Nat) : Int) from rfl, ih _ k (i + 1) (inP_mix h _ hb.1) (by omega) (by omega), drop_rd hlt, dgAll_cons]
theorem specDigest_eq (l : List Int) (h : isBytes l) (hl : l.length ≤ 1000000000) (k : Nat) (hk : l.length + 40 ≤ k) : spec_l2Digest.f k l = some (dg l) := by
  have := specDig_l0 l l h hl hl l.length [11, 22, 33, 44] k 0 inP_start (by omega) hk
  simpa [spec_l2Digest.f, dg, dgS] using this
theorem specDigest_ev (l : List Int) (h : isBytes l) (hl : l.length ≤ 1000000000) : Ev (fun k => spec_l2Digest.f k l) (dg l) := ⟨_, fun k hk => specDigest_eq l h hl k hk⟩
theorem isBytes_flatMap_yb (a : List Int) : isBytes (a.flatMap yb) := by
  intro x hx
  obtain ⟨n, _, hn⟩ := List.mem_flatMap.1 hx
  exact yb_bytes n x hn
theorem dg_bytes (l : List Int) : isBytes (dg l) := isBytes_flatMap_yb _
theorem dgAll_len : ∀ (l a : List Int), (dgAll a l).length = a.length
  | [], _ => rfl
  | x :: l, a => by rw [dgAll_cons, dgAll_len l, dgMix, mix_len]
theorem dg_len (l : List Int) : (dg l).length = 16 := by
  have h : (dgS l).length = 4 := by simp [dgS, dgAll_len]
  unfold dg
  match dgS l, h with
  | [b0, b1, b2, b3], _ => rfl
theorem isBytes_append {a b : List Int} (h : isBytes a) (h2 : isBytes b) : isBytes (a ++ b) := fun x hx => (List.mem_append.1 hx).elim (h x) (h2 x)
theorem implDigest_eq (l : List Int) (h : isBytes l) (hl : l.length ≤ 20000) : impl_Digest.f l = some (dg l) := by
  unfold impl_Digest.f; rw [if_pos h, if_neg (by omega)]
def macL (key data : List Int) : List Int := dg (dg key ++ dg data)
end Go.Proofs.Ytccbjchlcelkgaa.Pr
namespace Go.Proofs.Ytccbjchlcelkgaa.Pr
open Go.RowKit Go.Proofs.YtccbjchlcelkgaaW.PrintWords Go.Proofs.YtccbjchlcelkgaaW.PrintLast Go.Proofs.YtccbjchlcelkgaaW.PrintMore
attribute [local go_sem] max2_int min2_int max_two min_two max_three min_three max_four min_four
set_option linter.unusedVariables false
set_option linter.unusedSimpArgs false
end Go.Proofs.Ytccbjchlcelkgaa.Pr
namespace Go.Proofs.Ytccbjchlcelkgaa.Pr
open Go.RowKit Go.Proofs.YtccbjchlcelkgaaW.PrintWords Go.Proofs.YtccbjchlcelkgaaW.PrintLast Go.Proofs.YtccbjchlcelkgaaW.PrintMore
attribute [local go_sem] max2_int min2_int max_two min_two max_three min_three max_four min_four
set_option linter.unusedVariables false
set_option linter.unusedSimpArgs false
end Go.Proofs.Ytccbjchlcelkgaa.Pr
namespace Go.Proofs.Ytccbjchlcelkgaa.Pr
open Go.RowKit Go.Proofs.YtccbjchlcelkgaaW.PrintWords Go.Proofs.YtccbjchlcelkgaaW.PrintLast Go.Proofs.YtccbjchlcelkgaaW.PrintMore
attribute [local go_sem] max2_int min2_int max_two min_two max_three min_three max_four min_four
set_option linter.unusedVariables false
set_option linter.unusedSimpArgs false
end Go.Proofs.Ytccbjchlcelkgaa.Pr
namespace Go.Proofs.Ytccbjchlcelkgaa.Pr
open Go.RowKit Go.Proofs.Ytccbjchlcelkgaa.Read Go.Proofs.YtccbjchlcelkgaaW.PrintWords
set_option linter.unusedVariables false
def numL (l : List Int) : Int := rd l 0 + 256 * rd l 1 + 65536 * rd l 2 + 16777216 * rd l 3
theorem or_nat (a b : Nat) (ha : a < 4611686018427387904) (hb : b < 4611686018427387904) : Go.bits .or .i64 (a : Int) (b : Int) = ((a ||| b : Nat) : Int) := by
  have h1 : (BitVec.ofInt 64 (a : Int)).toNat = a := by
    rw [BitVec.ofInt_natCast, BitVec.toNat_ofNat]; exact Nat.mod_eq_of_lt (by omega)
  have h2 : (BitVec.ofInt 64 (b : Int)).toNat = b := by
    rw [BitVec.ofInt_natCast, BitVec.toNat_ofNat]; exact Nat.mod_eq_of_lt (by omega)
  have h3 : a ||| b < 2 ^ 62 := Nat.or_lt_two_pow (by simpa using ha) (by simpa using hb)
  have e0 : Go.bits .or .i64 (a : Int) (b : Int) = IntKind.i64.wrap ((((BitVec.ofInt 64 (a : Int)) ||| (BitVec.ofInt 64 (b : Int))).toNat : Nat) : Int) := rfl
  rw [e0, BitVec.toNat_or, h1, h2]
  exact IntWalk.i64_in _ (by omega)
theorem or_add (i : Nat) (a b : Int) (ha0 : 0 ≤ a) (ha : a < (2 ^ i : Nat)) (hb0 : 0 ≤ b) (hb : b < 4294967296) (hi : i ≤ 24) : Go.bits .or .i64 a (b * (2 ^ i : Nat)) = a + b * (2 ^ i : Nat) := by
  obtain ⟨a, rfl⟩ : ∃ n : Nat, a = n := ⟨a.toNat, by omega⟩
  obtain ⟨b, rfl⟩ : ∃ n : Nat, b = n := ⟨b.toNat, by omega⟩
  have hp : 2 ^ i ≤ 16777216 := Nat.le_trans (Nat.pow_le_pow_right (by omega) hi) (by decide)
  have hb' : b * 2 ^ i < 4611686018427387904 := by
    have : b * 2 ^ i ≤ 4294967296 * 16777216 := Nat.mul_le_mul (by omega) hp
    omega
  rw [← Int.natCast_mul, or_nat a (b * 2 ^ i) (by omega) hb', Nat.or_comm, Nat.mul_comm, ← Nat.two_pow_add_eq_or_of_lt (show a < 2 ^ i by omega)]
  rw [Nat.mul_comm, Int.natCast_add, Int.natCast_mul]
  omega
theorem rd_byte {l : List Int} (h : isBytes l) {i : Nat} (hi : i < l.length) : 0 ≤ rd l i ∧ rd l i ≤ 255 := by
  refine h _ ?_
  rw [rd_nat hi]
  exact List.getElem_mem hi
theorem implNum_eq (l : List Int) (h : isBytes l) (hl : 4 ≤ l.length) : impl_ynumber.f l = some (numL l) := by
  have b0 := rd_byte h (i := 0) (by omega)
  have b1 := rd_byte h (i := 1) (by omega)
  have b2 := rd_byte h (i := 2) (by omega)
  have b3 := rd_byte h (i := 3) (by omega)
  simp only [Int.cast_ofNat_Int] at b0 b1 b2 b3
  unfold impl_ynumber.f
  rw [if_neg (by omega), if_pos (by omega), if_pos (by omega), if_pos (by omega), if_pos (by omega), w64 (n := rd l 0) (by omega) (by omega), w64 (n := rd l 1) (by omega) (by omega), w64 (n := rd l 2) (by omega) (by omega), w64 (n := rd l 3) (by omega) (by omega), w64 (n := rd l 1 * 256) (by omega) (by omega), w64 (n := rd l 2 * 65536) (by omega) (by omega), w64 (n := rd l 3 * 16777216) (by omega) (by omega)]
  have e1 := or_add 8 (rd l 0) (rd l 1) (by omega) (by simp; omega) (by omega) (by omega) (by omega)
  have e2 := or_add 16 (rd l 0 + rd l 1 * 256) (rd l 2) (by omega) (by simp; omega) (by omega) (by omega) (by omega)
  have e3 := or_add 24 (rd l 0 + rd l 1 * 256 + rd l 2 * 65536) (rd l 3) (by omega) (by simp; omega) (by omega) (by omega) (by omega)
  simp only [show ((2 ^ 8 : Nat) : Int) = 256 from rfl, show ((2 ^ 16 : Nat) : Int) = 65536 from rfl, show ((2 ^ 24 : Nat) : Int) = 16777216 from rfl] at e1 e2 e3
  rw [e1, e2, e3]
  simp only [numL, Option.some.injEq]
  omega
theorem specNum_eq (l : List Int) (h : isBytes l) (hl : 4 ≤ l.length) (k : Nat) (hk : 5 ≤ k) : spec_l2Number.f k l = some (numL l) := by
  have b0 := rd_byte h (i := 0) (by omega)
  have b1 := rd_byte h (i := 1) (by omega)
  have b2 := rd_byte h (i := 2) (by omega)
  have b3 := rd_byte h (i := 3) (by omega)
  simp only [Int.cast_ofNat_Int] at b0 b1 b2 b3
  obtain ⟨k, rfl⟩ : ∃ m, k = m + 5 := ⟨k - 5, by omega⟩
  unfold spec_l2Number.f
  rw [spec_l2Number.l0, if_pos (by omega), if_pos (by omega), if_pos (by omega), show wrap64 ((3 : Int) - 1) = 2 from (w64 (by omega) (by omega)).trans (by omega), w64 (n := (0 : Int) * 256) (by omega) (by omega), w64 (n := rd l 3) (by omega) (by omega), w64 (n := (0 : Int) * 256 + rd l 3) (by omega) (by omega)]
  rw [spec_l2Number.l0, if_pos (by omega), if_pos (by omega), if_pos (by omega), show wrap64 ((2 : Int) - 1) = 1 from (w64 (by omega) (by omega)).trans (by omega), w64 (n := rd l 2) (by omega) (by omega), w64 (n := ((0 : Int) * 256 + rd l 3) * 256) (by omega) (by omega), w64 (n := ((0 : Int) * 256 + rd l 3) * 256 + rd l 2) (by omega) (by omega)]
  rw [spec_l2Number.l0, if_pos (by omega), if_pos (by omega), if_pos (by omega), show wrap64 ((1 : Int) - 1) = 0 from (w64 (by omega) (by omega)).trans (by omega), w64 (n := rd l 1) (by omega) (by omega), w64 (n := (((0 : Int) * 256 + rd l 3) * 256 + rd l 2) * 256) (by omega) (by omega), w64 (n := (((0 : Int) * 256 + rd l 3) * 256 + rd l 2) * 256 + rd l 1) (by omega) (by omega)]
  rw [spec_l2Number.l0, if_pos (by omega), if_pos (by omega), if_pos (by omega), show wrap64 ((0 : Int) - 1) = -1 from (w64 (by omega) (by omega)).trans (by omega), w64 (n := rd l 0) (by omega) (by omega), w64 (n := ((((0 : Int) * 256 + rd l 3) * 256 + rd l 2) * 256 + rd l 1) * 256) (by omega) (by omega), w64 (n := ((((0 : Int) * 256 + rd l 3) * 256 + rd l 2) * 256 + rd l 1) * 256 + rd l 0) (by omega) (by omega)]
  rw [spec_l2Number.l0, if_neg (by omega)]
  simp only [numL, Option.some.injEq]
  omega
theorem numL_range (l : List Int) (h : isBytes l) (hl : 4 ≤ l.length) : 0 ≤ numL l ∧ numL l ≤ 4294967295 := by
  have b0 := rd_byte h (i := 0) (by omega)
  have b1 := rd_byte h (i := 1) (by omega)
  have b2 := rd_byte h (i := 2) (by omega)
  have b3 := rd_byte h (i := 3) (by omega)
  simp only [Int.cast_ofNat_Int] at b0 b1 b2 b3
  unfold numL
  omega
def pubOk (p : Int) : Prop := 2 ≤ p ∧ p < 2147483579 ∧ pwm p 1073741789 = 1
instance (p : Int) : Decidable (pubOk p) := by unfold pubOk; infer_instance
def verOk (p : Int) (d : List Int) (r s : Int) : Prop := pubOk p ∧ d.length ≤ 20000 ∧ 1 ≤ r ∧ r < 2147483579 ∧ 0 ≤ s ∧ s < 1073741789
instance (p : Int) (d : List Int) (r s : Int) : Decidable (verOk p d r s) := by unfold verOk; infer_instance
end Go.Proofs.Ytccbjchlcelkgaa.Pr
namespace Go.Proofs.Ytccbjchlcelkgaa.Pr
open Go.RowKit Go.Proofs.Ytccbjchlcelkgaa.Read Go.Proofs.YtccbjchlcelkgaaW.PrintWords
set_option linter.unusedVariables false
def chk (n : Nat) : Nat → Nat → Bool
  | 0, lo => n % lo != 0
  | d + 1, lo => chk n d lo && chk n d (lo + 2 ^ d)
theorem chk_all (n : Nat) : ∀ (d lo : Nat), chk n d lo = true → ∀ i, lo ≤ i → i < lo + 2 ^ d → n % i ≠ 0
  | 0, lo, h, i, h1, h2 => by
    obtain rfl : i = lo := by simp at h2; omega
    simpa [chk] using h
  | d + 1, lo, h, i, h1, h2 => by
    simp only [chk, Bool.and_eq_true] at h
    rw [Nat.pow_succ] at h2
    by_cases hi : i < lo + 2 ^ d
    · exact chk_all n d lo h.1 i h1 hi
    · exact chk_all n d (lo + 2 ^ d) h.2 i (by omega) (by omega)
theorem noDiv (i : Nat) (h1 : 2 ≤ i) (h2 : i < 32770) : 1073741789 % i ≠ 0 :=
  chk_all 1073741789 15 2 (by decide +kernel) i h1 (by simpa using h2)
theorem gcdQ (x : Nat) (h0 : 0 < x) (h1 : x < 1073741789) : Nat.gcd x 1073741789 = 1 := by
  have hd := Nat.gcd_dvd_right x 1073741789
  have hx := Nat.gcd_dvd_left x 1073741789
  have hp : 0 < Nat.gcd x 1073741789 := Nat.gcd_pos_of_pos_left _ h0
  have hle : Nat.gcd x 1073741789 ≤ x := Nat.le_of_dvd h0 hx
  generalize Nat.gcd x 1073741789 = g at hd hp hle
  obtain ⟨q, hq⟩ := hd
  by_cases hg : g = 1
  · exact hg
  by_cases hs : g < 32770
  · exact absurd (by rw [hq]; exact Nat.mul_mod_right g q) (noDiv g (by omega) hs)
  · have hq1 : q < 32770 := by
      apply Decidable.byContradiction
      intro hc
      have : 32770 * 32770 ≤ g * q := Nat.mul_le_mul (by omega) (by omega)
      omega
    have hq2 : 2 ≤ q := by
      apply Decidable.byContradiction
      intro hc
      have h3 : q = 0 ∨ q = 1 := by omega
      rcases h3 with rfl | rfl
      · omega
      · omega
    exact absurd (by rw [hq]; exact Nat.mul_mod_left g q) (noDiv q hq2 hq1)
end Go.Proofs.Ytccbjchlcelkgaa.Pr
namespace Go.Proofs.Ytccbjchlcelkgaa.Pr
open Go.RowKit Go.Proofs.Ytccbjchlcelkgaa.Read Go.Proofs.YtccbjchlcelkgaaW.PrintWords
theorem Ev.up2 {α : Type} {g : Nat → Option α} {r : α} (h : Ev (fun k => g (k + 1)) r) : Ev g r := by
  obtain ⟨n, hn⟩ := h
  refine ⟨n + 1, fun k hk => ?_⟩
  obtain ⟨k, rfl⟩ : ∃ m, k = m + 1 := ⟨k - 1, by omega⟩
  exact hn k (by omega)
theorem macTwo_ev (a b : List Int) (ha : isBytes a) (hb : isBytes b) (la : a.length ≤ 100000000) (lb : b.length ≤ 100000000) : Ev (fun k => spec_l2Two.f k a b) (dg (a ++ b)) := by
  have hab := specDigest_ev (a ++ b) (isBytes_append ha hb) (by rw [List.length_append]; omega)
  simp only [spec_l2Two.f, List.length_nil, if_pos (show 0 + a.length < 140737488355328 by omega), List.nil_append, Option.bind_some, if_pos (show a.length + b.length < 140737488355328 by omega)]
  exact Ev.bind hab (Ev.now _)
theorem macS_ev (a b : List Int) (ha : isBytes a) (hb : isBytes b) (la : a.length ≤ 100000000) (lb : b.length ≤ 100000000) : Ev (fun k => spec_l2Mac.f k a b) (macL a b) := by
  simp only [spec_l2Mac.f]
  refine Ev.bind (specDigest_ev a ha (by omega)) ?_
  refine Ev.bind (specDigest_ev b hb (by omega)) ?_
  exact Ev.bind (macTwo_ev _ _ (dg_bytes a) (dg_bytes b) (by rw [dg_len]; omega) (by rw [dg_len]; omega)) (Ev.now _)
theorem macI_ev (a b : List Int) (ha : isBytes a) (hb : isBytes b) (la : a.length ≤ 20000) (lb : b.length ≤ 20000) : Ev (fun k => impl_Mac.f k a b) (macL a b) := by
  refine Ev.up2 ?_
  simp only [impl_Mac.f, if_neg (show ¬ ((a.length : Int) > 20000) by omega), decide_eq_false (show ¬ ((b.length : Int) > 20000) by omega), impl_Mac.j0, Bool.false_eq_true, if_false, implDigest_eq a ha la, implDigest_eq b hb lb, Option.bind_some, if_pos (show (dg a).length + (dg b).length < 140737488355328 by rw [dg_len, dg_len]; omega), implDigest_eq _ (isBytes_append (dg_bytes a) (dg_bytes b)) (show (dg a ++ dg b).length ≤ 20000 by rw [List.length_append, dg_len, dg_len]; omega)]
  exact Ev.now _
theorem mac_bytes (a b : List Int) : isBytes (macL a b) := dg_bytes _
theorem mac_len (a b : List Int) : (macL a b).length = 16 := dg_len _
end Go.Proofs.Ytccbjchlcelkgaa.Pr
namespace Go.Proofs.Ytccbjchlcelkgaa.Pr
open Go.RowKit Go.Proofs.Ytccbjchlcelkgaa.Read Go.Proofs.YtccbjchlcelkgaaW.PrintWords Go.Proofs.Ytccbjchlcelkgaa.Lagr
set_option linter.unusedVariables false
set_option linter.unusedSimpArgs false
theorem Ev.upS {α : Type} {g : Nat → Option α} {r : α} (h : Ev (fun k => g (k + 1)) r) : Ev g r := by
  obtain ⟨n, h⟩ := h
  refine ⟨n + 1, fun k hk => ?_⟩
  obtain ⟨k, rfl⟩ : ∃ m, k = m + 1 := ⟨k - 1, by omega⟩
  exact h k (by omega)
theorem mulPQ {a b : Int} (ha : 0 ≤ a) (ha2 : a < 1073741789) (hb : 0 ≤ b) (hb2 : b < 1073741789) : 0 ≤ a * b ∧ a * b ≤ 1152921482034176944 := by
  refine ⟨Int.mul_nonneg ha hb, ?_⟩
  have := Int.mul_le_mul (show a ≤ 1073741788 by omega) (show b ≤ 1073741788 by omega) hb (by omega)
  omega
theorem mulMQ {a b : Int} (ha : 0 ≤ a) (ha2 : a < 1073741789) (hb : 0 ≤ b) (hb2 : b < 1073741789) : Int.tmod (wrap64 (a * b)) 1073741789 = a * b % 1073741789 := by
  have := mulPQ ha ha2 hb hb2
  rw [w64 (by omega) (by omega), Int.tmod_eq_emod_of_nonneg this.1]
theorem ypowQ_l0 : ∀ (f k e : Nat) (x0 x7 : Int), 0 ≤ x0 → x0 < 1073741789 → 0 ≤ x7 → x7 < 1073741789 → e < 2 ^ f → f ≤ 60 → f < k → impl_ypow.l0 k x0 e 1073741789 x7 = some (x7 * x0 ^ e % 1073741789) := by
  intro f
  induction f with
  | zero =>
    intro k e x0 x7 h0 h1 h2 h3 he hf hk
    obtain ⟨k, rfl⟩ : ∃ m, k = m + 1 := ⟨k - 1, by omega⟩
    obtain rfl : e = 0 := by simpa using he
    simp only [impl_ypow.l0, if_neg (show ¬ (((0 : Nat) : Int) > 0) by omega)]
    rw [Int.pow_zero, Int.mul_one, Int.emod_eq_of_lt h2 h3]
  | succ f ih =>
    intro k e x0 x7 h0 h1 h2 h3 he hf hk
    obtain ⟨k, rfl⟩ : ∃ m, k = m + 1 := ⟨k - 1, by omega⟩
    by_cases hz : e = 0
    · subst hz
      simp only [impl_ypow.l0, if_neg (show ¬ (((0 : Nat) : Int) > 0) by omega)]
      rw [Int.pow_zero, Int.mul_one, Int.emod_eq_of_lt h2 h3]
    · have hlim : e < 9223372036854775808 := Nat.lt_of_lt_of_le he (Nat.le_trans (Nat.pow_le_pow_right (by omega) (show f + 1 ≤ 61 by omega)) (by decide))
      have hdiv : ((e : Int) / 2) = ((e / 2 : Nat) : Int) := by omega
      have hhalf : e / 2 < 2 ^ f := by rw [Nat.pow_succ] at he; omega
      have s0 : 0 ≤ x0 * x0 % 1073741789 := Int.emod_nonneg _ (by omega)
      have s1 : x0 * x0 % 1073741789 < 1073741789 := Int.emod_lt_of_pos _ (by omega)
      have t0 : 0 ≤ x7 * x0 % 1073741789 := Int.emod_nonneg _ (by omega)
      have t1 : x7 * x0 % 1073741789 < 1073741789 := Int.emod_lt_of_pos _ (by omega)
      simp only [impl_ypow.l0, if_pos (show ((e : Int) > 0) by omega), and1 e hlim, if_neg (show ¬ ((1073741789 : Int) = 0) by omega), mulMQ h0 h1 h0 h1, mulMQ h2 h3 h0 h1, hdiv]
      by_cases ho : e % 2 = 1
      · rw [if_pos (by omega), ih k (e / 2) _ _ s0 s1 t0 t1 hhalf (by omega) (by omega)]
        congr 1
        rw [Int.mul_emod, pow_emod', Int.emod_emod, ← Int.mul_emod, ← pow_double]
        conv => rhs; rw [show e = 2 * (e / 2) + 1 by omega, Int.pow_succ]
        congr 1
        ac_rfl
      · rw [if_neg (by omega), ih k (e / 2) _ _ s0 s1 h2 h3 hhalf (by omega) (by omega)]
        congr 1
        rw [Int.mul_emod, pow_emod', ← Int.mul_emod, ← pow_double]
        conv => rhs; rw [show e = 2 * (e / 2) by omega]
theorem ypowQ_eq (b : Int) (e : Nat) (h0 : 0 ≤ b) (h1 : b < 1073741789) (he : e < 2199023255552) (k : Nat) (hk : 50 ≤ k) : impl_ypow.f k b e 1073741789 = some (b ^ e % 1073741789) := by
  unfold impl_ypow.f
  rw [if_neg (by omega), Int.tmod_eq_emod_of_nonneg h0, Int.emod_eq_of_lt h0 h1, ypowQ_l0 41 k e b 1 h0 h1 (by omega) (by omega) (by simpa using he) (by omega) (by omega), Int.one_mul]
def toF (n : Int) : FQ := ⟨(n % 1073741789).toNat, by omega⟩
theorem toF_val (n : Int) : ((toF n).val : Int) = n % 1073741789 := by
  show (((n % 1073741789).toNat : Nat) : Int) = _
  omega
theorem toF_add (a b : Int) : toF (a + b) = toF a + toF b := by
  apply Fin.ext
  rw [Fin.val_add]
  show ((a + b) % 1073741789).toNat = ((a % 1073741789).toNat + (b % 1073741789).toNat) % 1073741789
  omega
theorem toF_mul (a b : Int) : toF (a * b) = toF a * toF b := by
  apply Fin.ext
  rw [Fin.val_mul]
  show (a * b % 1073741789).toNat = ((a % 1073741789).toNat * (b % 1073741789).toNat) % 1073741789
  have h := Int.mul_emod a b 1073741789
  obtain ⟨x, hx⟩ : ∃ x : Nat, a % 1073741789 = (x : Int) := ⟨(a % 1073741789).toNat, by omega⟩
  obtain ⟨y, hy⟩ : ∃ y : Nat, b % 1073741789 = (y : Int) := ⟨(b % 1073741789).toNat, by omega⟩
  rw [hx, hy] at h ⊢
  rw [h]
  have e : ((x : Int) * (y : Int) % 1073741789) = ((x * y % 1073741789 : Nat) : Int) := by rw [Int.natCast_emod, Int.natCast_mul]; rfl
  rw [e, Int.toNat_natCast, Int.toNat_natCast, Int.toNat_natCast]
theorem toF_mod (a : Int) : toF (a % 1073741789) = toF a := by
  apply Fin.ext
  show (a % 1073741789 % 1073741789).toNat = (a % 1073741789).toNat
  omega
theorem toF_one : toF 1 = 1 := rfl
theorem toF_zero : toF 0 = 0 := rfl
theorem toF_sub (a b : Int) : toF (a - b) = toF a - toF b := by
  have h := toF_add (a - b) b
  rw [show a - b + b = a by omega] at h
  grind
theorem toF_order (a : Int) : toF (a + 1073741789) = toF a := by
  apply Fin.ext
  show ((a + 1073741789) % 1073741789).toNat = (a % 1073741789).toNat
  omega
theorem toF_inj {a b : Int} (ha : 0 ≤ a ∧ a < 1073741789) (hb : 0 ≤ b ∧ b < 1073741789) (h : toF a = toF b) : a = b := by
  have h1 := toF_val a
  have h2 := toF_val b
  rw [h] at h1
  omega
theorem toF_pow (a : Int) : ∀ e : Nat, toF (a ^ e) = pwF (toF a) e
  | 0 => by rw [Int.pow_zero]; rfl
  | e + 1 => by
    show _ = toF a * pwF (toF a) e
    rw [Int.pow_succ, toF_mul, toF_pow a e]
    grind
def invE (e : Nat) (x : FQ) : FQ := pwF x e
theorem pwF_mul (a b : FQ) : ∀ e : Nat, pwF (a * b) e = pwF a e * pwF b e
  | 0 => by unfold pwF; grind
  | e + 1 => by unfold pwF; rw [pwF_mul a b e]; grind
theorem pwF_val (x : FQ) : ∀ e : Nat, (pwF x e).val = x.val ^ e % 1073741789
  | 0 => rfl
  | e + 1 => by
    show (x * pwF x e).val = _
    rw [Fin.val_mul, pwF_val x e, Nat.pow_succ', Nat.mul_mod, Nat.mod_mod, ← Nat.mul_mod]
theorem invE_ok (e : Nat) (he : e + 2 = 1073741789) (a : FQ) (ha : a ≠ 0) : a * invE e a = 1 := by
  apply Fin.ext
  rw [Fin.val_mul]
  show a.val * (pwF a e).val % 1073741789 = 1
  rw [pwF_val]
  have h0 : 0 < a.val := Nat.pos_of_ne_zero (fun e => ha (Fin.ext e))
  have h := fermat_one 1073741789 (by omega) (fun k h1 h2 => gcdQ k h1 h2) a.val h0 a.isLt
  rw [show 1073741789 - 2 = e by omega] at h
  rw [Nat.mul_mod, Nat.mod_mod, ← Nat.mul_mod]
  exact h
def aJ (salt : List Int) (j : Nat) : Int := numL (macL salt [(j : Int) % 256]) % 1073741789
def pN (X : Int) : Nat → Int
  | 0 => 1
  | j + 1 => pN X j * X % 1073741789
def yN (salt : List Int) (s X : Int) : Nat → Int
  | 0 => s
  | j + 1 => (yN salt s X j + aJ salt (j + 1) * pN X (j + 1)) % 1073741789
theorem aJ_range (salt : List Int) (j : Nat) : 0 ≤ aJ salt j ∧ aJ salt j < 1073741789 := ⟨Int.emod_nonneg _ (by omega), Int.emod_lt_of_pos _ (by omega)⟩
theorem pN_range (X : Int) : ∀ j, 0 ≤ pN X j ∧ pN X j < 1073741789
  | 0 => ⟨by show (0 : Int) ≤ 1; omega, by show (1 : Int) < _; omega⟩
  | j + 1 => ⟨Int.emod_nonneg _ (by omega), Int.emod_lt_of_pos _ (by omega)⟩
theorem yN_range (salt : List Int) (s X : Int) (hs : 0 ≤ s ∧ s < 1073741789) : ∀ j, 0 ≤ yN salt s X j ∧ yN salt s X j < 1073741789
  | 0 => hs
  | j + 1 => ⟨Int.emod_nonneg _ (by omega), Int.emod_lt_of_pos _ (by omega)⟩
theorem one8 (j : Int) : isBytes [j % 256] := by
  intro x hx
  obtain rfl : x = j % 256 := by simpa using hx
  omega
def splitL (s : Int) (many need : Nat) (salt : List Int) : List ShareS := (List.range many).map (fun i => ⟨((i + 1 : Nat) : Int), yN salt s ((i + 1 : Nat) : Int) (need - 1)⟩)
theorem implSplit_l1 (s : Int) (many need : Nat) (salt : List Int) (hs : 0 ≤ s ∧ s < 1073741789) (hsalt : isBytes salt) (hl : salt.length ≤ 20000) (hn : 1 ≤ need ∧ need ≤ many ∧ many ≤ 20) (X : Nat) (hX : 1 ≤ X ∧ X ≤ many) (out : List ShareS) (ho : out.length ≤ 100) (r : List ShareS)
    (hrest : Ev (fun k => impl_Split.l0 k s (many : Int) (need : Int) salt (out ++ [⟨(X : Int), yN salt s X (need - 1)⟩]) (wrap64 ((X : Int) + 1))) r) (d : Nat) :
    ∀ i : Nat, i + d = need - 1 → Ev (fun k => impl_Split.l1 k s (many : Int) (need : Int) salt out (X : Int) (yN salt s X i) (pN X i) ((i + 1 : Nat) : Int)) r := by
  induction d with
  | zero =>
    intro i hi
    refine Ev.upS ?_
    simp only [impl_Split.l1, if_neg (show ¬ ((i + 1 : Nat) : Int) < (need : Int) by omega), if_pos (show out.length < 8796093022208 by omega)]
    rw [show i = need - 1 by omega]
    exact hrest
  | succ d ih =>
    intro i hi
    have h := ih (i + 1) (by omega)
    have hlt : ((i + 1 : Nat) : Int) < (need : Int) := by omega
    have hl8 : salt.length ≤ 100000000 := by omega
    have hX8 : 0 ≤ (X : Int) ∧ (X : Int) < 1073741789 := by omega
    have e5 : wrap64 (((i + 1 : Nat) : Int) + 1) = ((i + 1 + 1 : Nat) : Int) := by rw [w64 (by omega) (by omega)]; rfl
    have r1 := pN_range X i
    have r2 := pN_range X (i + 1)
    have r3 := yN_range salt s X hs i
    have r4 := aJ_range salt (i + 1)
    have r5 := numL_range (macL salt [((i + 1 : Nat) : Int) % 256]) (mac_bytes _ _) (by rw [mac_len]; omega)
    have e1 : Int.tmod (wrap64 (pN X i * X)) 1073741789 = pN X (i + 1) := mulMQ r1.1 r1.2 hX8.1 hX8.2
    have e2 : Int.tmod (numL (macL salt [((i + 1 : Nat) : Int) % 256])) 1073741789 = aJ salt (i + 1) := Int.tmod_eq_emod_of_nonneg r5.1
    have m1 := mulPQ r4.1 r4.2 r2.1 r2.2
    have m2 : aJ salt (i + 1) * pN X (i + 1) ≤ 4000000000000000000 := by omega
    have e3 : wrap64 (aJ salt (i + 1) * pN X (i + 1)) = aJ salt (i + 1) * pN X (i + 1) := w64 (by omega) (by omega)
    have e4 : Int.tmod (wrap64 (yN salt s X i + aJ salt (i + 1) * pN X (i + 1))) 1073741789 = yN salt s X (i + 1) := by
      rw [w64 (by omega) (by omega), Int.tmod_eq_emod_of_nonneg (by omega)]
      rfl
    refine Ev.upS ?_
    simp only [impl_Split.l1, if_pos hlt]
    refine Ev.bind (macI_ev salt [((i + 1 : Nat) : Int) % 256] hsalt (one8 _) hl (by simp)) ?_
    refine Ev.bind (⟨0, fun _ _ => implNum_eq _ (mac_bytes _ _) (by rw [mac_len]; omega)⟩ : Ev (fun k => impl_ynumber.f (macL salt [((i + 1 : Nat) : Int) % 256])) _) ?_
    simp only [e1, e2, e3, e4, e5]
    exact h
theorem implSplit_l0 (s : Int) (many need : Nat) (salt : List Int) (hs : 0 ≤ s ∧ s < 1073741789) (hsalt : isBytes salt) (hl : salt.length ≤ 20000) (hn : 1 ≤ need ∧ need ≤ many ∧ many ≤ 20) (d : Nat) :
    ∀ i : Nat, i + d = many → Ev (fun k => impl_Split.l0 k s (many : Int) (need : Int) salt ((List.range i).map (fun i => (⟨((i + 1 : Nat) : Int), yN salt s ((i + 1 : Nat) : Int) (need - 1)⟩ : ShareS))) ((i + 1 : Nat) : Int)) (splitL s many need salt) := by
  induction d with
  | zero =>
    intro i hi
    refine Ev.upS ?_
    simp only [impl_Split.l0, if_neg (show ¬ ((i + 1 : Nat) : Int) ≤ (many : Int) by omega)]
    rw [show i = many by omega]
    exact Ev.now _
  | succ d ih =>
    intro i hi
    have h := ih (i + 1) (by omega)
    refine Ev.upS ?_
    simp only [impl_Split.l0, if_pos (show ((i + 1 : Nat) : Int) ≤ (many : Int) by omega)]
    refine implSplit_l1 s many need salt hs hsalt hl hn (i + 1) ⟨by omega, by omega⟩ _ (by simp; omega) _ ?_ (need - 1) 0 (by omega)
    rw [show wrap64 (((i + 1 : Nat) : Int) + 1) = ((i + 1 + 1 : Nat) : Int) from by rw [w64 (by omega) (by omega)]; rfl]
    rw [List.range_succ, List.map_append, List.map_singleton] at h
    exact h
theorem specSplit_l1 (s : Int) (many need : Nat) (salt : List Int) (hs : 0 ≤ s ∧ s < 1073741789) (hsalt : isBytes salt) (hl : salt.length ≤ 20000) (hn : 1 ≤ need ∧ need ≤ many ∧ many ≤ 20) (X : Nat) (hX : 1 ≤ X ∧ X ≤ many) (out : List ShareS) (ho : out.length ≤ 100) (r : List ShareS)
    (hrest : Ev (fun k => spec_Split.l0 k s (many : Int) (need : Int) salt (out ++ [⟨(X : Int), yN salt s X (need - 1)⟩]) (wrap64 ((X : Int) + 1))) r) (d : Nat) :
    ∀ i : Nat, i + d = need - 1 → Ev (fun k => spec_Split.l1 k s (many : Int) (need : Int) salt out (X : Int) (yN salt s X i) (pN X i) ((i + 1 : Nat) : Int)) r := by
  induction d with
  | zero =>
    intro i hi
    refine Ev.upS ?_
    simp only [spec_Split.l1, if_neg (show ¬ ((i + 1 : Nat) : Int) < (need : Int) by omega), if_pos (show out.length < 8796093022208 by omega)]
    rw [show i = need - 1 by omega]
    exact hrest
  | succ d ih =>
    intro i hi
    have h := ih (i + 1) (by omega)
    have hlt : ((i + 1 : Nat) : Int) < (need : Int) := by omega
    have hl8 : salt.length ≤ 100000000 := by omega
    have hX8 : 0 ≤ (X : Int) ∧ (X : Int) < 1073741789 := by omega
    have e5 : wrap64 (((i + 1 : Nat) : Int) + 1) = ((i + 1 + 1 : Nat) : Int) := by rw [w64 (by omega) (by omega)]; rfl
    have r1 := pN_range X i
    have r2 := pN_range X (i + 1)
    have r3 := yN_range salt s X hs i
    have r4 := aJ_range salt (i + 1)
    have r5 := numL_range (macL salt [((i + 1 : Nat) : Int) % 256]) (mac_bytes _ _) (by rw [mac_len]; omega)
    have e1 : Int.tmod (wrap64 (pN X i * X)) 1073741789 = pN X (i + 1) := mulMQ r1.1 r1.2 hX8.1 hX8.2
    have e2 : Int.tmod (numL (macL salt [((i + 1 : Nat) : Int) % 256])) 1073741789 = aJ salt (i + 1) := Int.tmod_eq_emod_of_nonneg r5.1
    have m1 := mulPQ r4.1 r4.2 r2.1 r2.2
    have m2 : aJ salt (i + 1) * pN X (i + 1) ≤ 4000000000000000000 := by omega
    have e3 : wrap64 (aJ salt (i + 1) * pN X (i + 1)) = aJ salt (i + 1) * pN X (i + 1) := w64 (by omega) (by omega)
    have e4 : Int.tmod (wrap64 (yN salt s X i + aJ salt (i + 1) * pN X (i + 1))) 1073741789 = yN salt s X (i + 1) := by
      rw [w64 (by omega) (by omega), Int.tmod_eq_emod_of_nonneg (by omega)]
      rfl
    refine Ev.upS ?_
    simp only [spec_Split.l1, if_pos hlt]
    refine Ev.bind (macS_ev salt [((i + 1 : Nat) : Int) % 256] hsalt (one8 _) hl8 (by simp)) ?_
    refine Ev.bind (⟨5, fun k hk => specNum_eq _ (mac_bytes _ _) (by rw [mac_len]; omega) k hk⟩ : Ev (fun k => spec_l2Number.f k (macL salt [((i + 1 : Nat) : Int) % 256])) _) ?_
    simp only [e1, e2, e3, e4, e5]
    exact h
theorem specSplit_l0 (s : Int) (many need : Nat) (salt : List Int) (hs : 0 ≤ s ∧ s < 1073741789) (hsalt : isBytes salt) (hl : salt.length ≤ 20000) (hn : 1 ≤ need ∧ need ≤ many ∧ many ≤ 20) (d : Nat) :
    ∀ i : Nat, i + d = many → Ev (fun k => spec_Split.l0 k s (many : Int) (need : Int) salt ((List.range i).map (fun i => (⟨((i + 1 : Nat) : Int), yN salt s ((i + 1 : Nat) : Int) (need - 1)⟩ : ShareS))) ((i + 1 : Nat) : Int)) (splitL s many need salt) := by
  induction d with
  | zero =>
    intro i hi
    refine Ev.upS ?_
    simp only [spec_Split.l0, if_neg (show ¬ ((i + 1 : Nat) : Int) ≤ (many : Int) by omega)]
    rw [show i = many by omega]
    exact Ev.now _
  | succ d ih =>
    intro i hi
    have h := ih (i + 1) (by omega)
    refine Ev.upS ?_
    simp only [spec_Split.l0, if_pos (show ((i + 1 : Nat) : Int) ≤ (many : Int) by omega)]
    refine specSplit_l1 s many need salt hs hsalt hl hn (i + 1) ⟨by omega, by omega⟩ _ (by simp; omega) _ ?_ (need - 1) 0 (by omega)
    rw [show wrap64 (((i + 1 : Nat) : Int) + 1) = ((i + 1 + 1 : Nat) : Int) from by rw [w64 (by omega) (by omega)]; rfl]
    rw [List.range_succ, List.map_append, List.map_singleton] at h
    exact h
def validS (s many need : Int) (salt : List Int) : Prop := 0 ≤ s ∧ s < 1073741789 ∧ 1 ≤ need ∧ need ≤ many ∧ many ≤ 20 ∧ salt.length ≤ 20000
instance (s many need : Int) (salt : List Int) : Decidable (validS s many need salt) := by unfold validS; exact inferInstance
def splitR (s many need : Int) (salt : List Int) : List ShareS := if validS s many need salt then splitL s many.toNat need.toNat salt else []
theorem implSplit_ev (s many need : Int) (salt : List Int) (hsalt : isBytes salt) : Ev (fun k => impl_Split.f k s many need salt) (splitR s many need salt) := by
  have ht : ∀ b c : Int, Ev (fun k => impl_Split.j0 k s many need salt true) [] := fun _ _ => by
    refine Ev.upS ?_
    simp only [impl_Split.j0, if_true]
    exact Ev.now _
  unfold splitR
  simp only [impl_Split.f]
  by_cases h1 : s < 0
  · rw [if_neg (fun h : validS s many need salt => by unfold validS at h; omega)]; simp only [if_pos h1]; exact ht 0 0
  simp only [if_neg h1]
  by_cases h2 : s ≥ 1073741789
  · rw [if_neg (fun h : validS s many need salt => by unfold validS at h; omega)]; simp only [if_pos h2]; exact ht 0 0
  simp only [if_neg h2]
  by_cases h3 : need < 1
  · rw [if_neg (fun h : validS s many need salt => by unfold validS at h; omega)]; simp only [if_pos h3]; exact ht 0 0
  simp only [if_neg h3]
  by_cases h4 : need > many
  · rw [if_neg (fun h : validS s many need salt => by unfold validS at h; omega)]; simp only [if_pos h4]; exact ht 0 0
  simp only [if_neg h4]
  by_cases h5 : many > 20
  · rw [if_neg (fun h : validS s many need salt => by unfold validS at h; omega)]; simp only [if_pos h5]; exact ht 0 0
  simp only [if_neg h5]
  by_cases h6 : salt.length ≤ 20000
  · rw [if_pos (show validS s many need salt from ⟨by omega, by omega, by omega, by omega, by omega, h6⟩), decide_eq_false (show ¬ (salt.length : Int) > 20000 by omega)]
    refine Ev.upS ?_
    simp only [impl_Split.j0, if_neg (show ¬ (false = true) by decide)]
    have h := implSplit_l0 s many.toNat need.toNat salt ⟨by omega, by omega⟩ hsalt h6 ⟨by omega, by omega, by omega⟩ many.toNat 0 (by omega)
    rw [show ((many.toNat : Nat) : Int) = many by omega, show ((need.toNat : Nat) : Int) = need by omega] at h
    exact h
  · rw [if_neg (fun h : validS s many need salt => h6 h.2.2.2.2.2), decide_eq_true (show (salt.length : Int) > 20000 by omega)]
    exact ht 0 0
theorem specSplit_ev (s many need : Int) (salt : List Int) (hsalt : isBytes salt) : Ev (fun k => spec_Split.f k s many need salt) (splitR s many need salt) := by
  have ht : ∀ b c : Int, Ev (fun k => spec_Split.j0 k s many need salt true) [] := fun _ _ => by
    refine Ev.upS ?_
    simp only [spec_Split.j0, if_true]
    exact Ev.now _
  unfold splitR
  simp only [spec_Split.f]
  by_cases h1 : s < 0
  · rw [if_neg (fun h : validS s many need salt => by unfold validS at h; omega)]; simp only [if_pos h1]; exact ht 0 0
  simp only [if_neg h1]
  by_cases h2 : s ≥ 1073741789
  · rw [if_neg (fun h : validS s many need salt => by unfold validS at h; omega)]; simp only [if_pos h2]; exact ht 0 0
  simp only [if_neg h2]
  by_cases h3 : need < 1
  · rw [if_neg (fun h : validS s many need salt => by unfold validS at h; omega)]; simp only [if_pos h3]; exact ht 0 0
  simp only [if_neg h3]
  by_cases h4 : many < need
  · rw [if_neg (fun h : validS s many need salt => by unfold validS at h; omega)]; simp only [if_pos h4]; exact ht 0 0
  simp only [if_neg h4]
  by_cases h5 : many > 20
  · rw [if_neg (fun h : validS s many need salt => by unfold validS at h; omega)]; simp only [if_pos h5]; exact ht 0 0
  simp only [if_neg h5]
  by_cases h6 : salt.length ≤ 20000
  · rw [if_pos (show validS s many need salt from ⟨by omega, by omega, by omega, by omega, by omega, h6⟩), decide_eq_false (show ¬ (salt.length : Int) > 20000 by omega)]
    refine Ev.upS ?_
    simp only [spec_Split.j0, if_neg (show ¬ (false = true) by decide)]
    have h := specSplit_l0 s many.toNat need.toNat salt ⟨by omega, by omega⟩ hsalt h6 ⟨by omega, by omega, by omega⟩ many.toNat 0 (by omega)
    rw [show ((many.toNat : Nat) : Int) = many by omega, show ((need.toNat : Nat) : Int) = need by omega] at h
    exact h
  · rw [if_neg (fun h : validS s many need salt => h6 h.2.2.2.2.2), decide_eq_true (show (salt.length : Int) > 20000 by omega)]
    exact ht 0 0
theorem pN_F (X : Int) : ∀ j, toF (pN X j) = pwF (toF X) j
  | 0 => rfl
  | j + 1 => by
    show toF (pN X j * X % 1073741789) = toF X * pwF (toF X) j
    rw [toF_mod, toF_mul, pN_F X j]
    grind
def asL (salt : List Int) : Nat → List FQ
  | 0 => []
  | n + 1 => asL salt n ++ [toF (aJ salt (n + 1))]
theorem asL_len (salt : List Int) : ∀ n, (asL salt n).length = n
  | 0 => rfl
  | n + 1 => by unfold asL; rw [List.length_append, asL_len salt n]; rfl
theorem polS_snoc (x c : FQ) : ∀ (cs : List FQ) (j : Nat), polS x (cs ++ [c]) j = polS x cs j + c * pwF x (j + cs.length + 1)
  | [], j => by
    show c * pwF x (j + 1) + 0 = 0 + c * pwF x (j + 0 + 1)
    grind
  | b :: cs, j => by
    show b * pwF x (j + 1) + polS x (cs ++ [c]) (j + 1) = b * pwF x (j + 1) + polS x cs (j + 1) + c * pwF x (j + (cs.length + 1) + 1)
    rw [polS_snoc x c cs (j + 1), show j + 1 + cs.length + 1 = j + (cs.length + 1) + 1 by omega]
    grind
theorem yN_F (salt : List Int) (s X : Int) : ∀ n, toF (yN salt s X n) = toF s + polS (toF X) (asL salt n) 0
  | 0 => by
    show toF s = toF s + 0
    grind
  | n + 1 => by
    show toF ((yN salt s X n + aJ salt (n + 1) * pN X (n + 1)) % 1073741789) = toF s + polS (toF X) (asL salt n ++ [toF (aJ salt (n + 1))]) 0
    rw [toF_mod, toF_add, toF_mul, yN_F salt s X n, pN_F, polS_snoc, asL_len, show 0 + n + 1 = n + 1 by omega]
    grind
end Go.Proofs.Ytccbjchlcelkgaa.Pr
namespace Go.Proofs.Ytccbjchlcelkgaa.Pr
open Go.RowKit Go.Proofs.Ytccbjchlcelkgaa.Read Go.Proofs.YtccbjchlcelkgaaW.PrintWords Go.Proofs.Ytccbjchlcelkgaa.Lagr
set_option linter.unusedVariables false
set_option linter.unusedSimpArgs false
theorem rdSh_nat {l : List ShareS} {i : Nat} (h : i < l.length) : rd_T51 l (i : Int) = l[i] := by simp [rd_T51, List.getD_eq_getElem?_getD, List.getElem?_eq_getElem h]
def shX (l : List ShareS) (i : Nat) : Int := (rd_T51 l (i : Int)).f0
def shY (l : List ShareS) (i : Nat) : Int := (rd_T51 l (i : Int)).f1
def ndJ (l : List ShareS) (i : Nat) : Nat → Int × Int
  | 0 => (shY l i, 1)
  | q + 1 => if q = i then ndJ l i q else ((ndJ l i q).1 * shX l q % 1073741789, (ndJ l i q).2 * ((shX l q - shX l i + 1073741789) % 1073741789) % 1073741789)
def sumJ (l : List ShareS) : Nat → Int
  | 0 => 0
  | i + 1 => (sumJ l i + (ndJ l i l.length).1 * ((ndJ l i l.length).2 ^ 1073741787 % 1073741789)) % 1073741789
def okRange (l : List ShareS) : Prop := ∀ i, i < l.length → (1 ≤ shX l i ∧ shX l i < 1073741789) ∧ (0 ≤ shY l i ∧ shY l i < 1073741789)
theorem ndJ_range (l : List ShareS) (i : Nat) (hy : 0 ≤ shY l i ∧ shY l i < 1073741789) : ∀ q, (0 ≤ (ndJ l i q).1 ∧ (ndJ l i q).1 < 1073741789) ∧ (0 ≤ (ndJ l i q).2 ∧ (ndJ l i q).2 < 1073741789)
  | 0 => ⟨hy, by show (0 : Int) ≤ 1; omega, by show (1 : Int) < _; omega⟩
  | q + 1 => by
    unfold ndJ
    by_cases h : q = i
    · rw [if_pos h]; exact ndJ_range l i hy q
    · rw [if_neg h]
      exact ⟨⟨Int.emod_nonneg _ (by omega), Int.emod_lt_of_pos _ (by omega)⟩, ⟨Int.emod_nonneg _ (by omega), Int.emod_lt_of_pos _ (by omega)⟩⟩
theorem sumJ_range (l : List ShareS) : ∀ i, 0 ≤ sumJ l i ∧ sumJ l i < 1073741789
  | 0 => ⟨by show (0 : Int) ≤ 0; omega, by show (0 : Int) < _; omega⟩
  | i + 1 => ⟨Int.emod_nonneg _ (by omega), Int.emod_lt_of_pos _ (by omega)⟩
theorem join_l1 (l : List ShareS) (hl : l.length ≤ 100) (hr : okRange l) (i : Nat) (hi : i < l.length) (x7 : Int) (r : Int × Bool) (p : Int) (hp : p = (ndJ l i l.length).2 ^ 1073741787 % 1073741789)
    (hrest : Ev (fun k => impl_Join.l0 k l (Int.tmod (wrap64 (x7 + (wrap64 ((ndJ l i l.length).1 * p)))) 1073741789) l (l.length : Int) (wrap64 ((i : Int) + 1))) r) (d : Nat) :
    ∀ q : Nat, q + d = l.length → Ev (fun k => impl_Join.l1 k l x7 (i : Int) (ndJ l i q).1 (ndJ l i q).2 l (l.length : Int) (i : Int) l (l.length : Int) (q : Int) (shX l i) (shY l i)) r := by
  have ryi := (hr i hi).2
  have rxi := (hr i hi).1
  induction d with
  | zero =>
    intro q hq
    refine Ev.upS ?_
    simp only [impl_Join.l1, if_neg (show ¬ (q : Int) < (l.length : Int) by omega)]
    rw [show q = l.length by omega]
    have rn := ndJ_range l i ryi l.length
    have h := ypowQ_eq (ndJ l i l.length).2 1073741787 rn.2.1 rn.2.2 (by omega)
    rw [← hp] at h
    refine Ev.bind (⟨50, fun k hk => h k hk⟩ : Ev (fun k => impl_ypow.f k (ndJ l i l.length).2 1073741787 1073741789) p) ?_
    exact hrest
  | succ d ih =>
    intro q hq
    have hlt : q < l.length := by omega
    have h := ih (q + 1) (by omega)
    have hc1 : (q : Int) < (l.length : Int) := by omega
    have ew : wrap64 ((q : Int) + 1) = ((q + 1 : Nat) : Int) := by rw [w64 (by omega) (by omega)]; rfl
    have rn := ndJ_range l i ryi q
    have rxq := (hr q hlt).1
    have edf : Int.tmod (wrap64 ((wrap64 (shX l q - shX l i)) + 1073741789)) 1073741789 = (shX l q - shX l i + 1073741789) % 1073741789 := by
      rw [w64 (n := shX l q - shX l i) (by omega) (by omega), w64 (by omega) (by omega), Int.tmod_eq_emod_of_nonneg (by omega)]
    have rdf : 0 ≤ (shX l q - shX l i + 1073741789) % 1073741789 ∧ (shX l q - shX l i + 1073741789) % 1073741789 < 1073741789 := ⟨Int.emod_nonneg _ (by omega), Int.emod_lt_of_pos _ (by omega)⟩
    have hx0 : 0 ≤ shX l q := by omega
    have e1 : Int.tmod (wrap64 ((ndJ l i q).1 * shX l q)) 1073741789 = (ndJ l i q).1 * shX l q % 1073741789 := mulMQ rn.1.1 rn.1.2 hx0 rxq.2
    have e2 : Int.tmod (wrap64 ((ndJ l i q).2 * ((shX l q - shX l i + 1073741789) % 1073741789))) 1073741789 = (ndJ l i q).2 * ((shX l q - shX l i + 1073741789) % 1073741789) % 1073741789 := mulMQ rn.2.1 rn.2.2 rdf.1 rdf.2
    refine Ev.upS ?_
    unfold ndJ at h
    by_cases hqi : q = i
    · have hqi2 : (q : Int) = (i : Int) := by rw [hqi]
      rw [if_pos hqi] at h
      simp only [impl_Join.l1, if_pos hc1, if_pos (Int.natCast_nonneg q), if_pos hqi2, ew]
      exact h
    · have hqi2 : ¬ (q : Int) = (i : Int) := fun e => hqi (Int.ofNat_inj.1 e)
      rw [if_neg hqi] at h
      simp only [impl_Join.l1, if_pos hc1, if_pos (Int.natCast_nonneg q), if_neg hqi2, ew]
      rw [show (rd_T51 l (q : Int)).f0 = shX l q from rfl]
      simp only [edf, e1, e2]
      exact h
theorem join_l0 (l : List ShareS) (hl : l.length ≤ 100) (hr : okRange l) (d : Nat) : ∀ i : Nat, i + d = l.length → Ev (fun k => impl_Join.l0 k l (sumJ l i) l (l.length : Int) (i : Int)) (sumJ l l.length, true) := by
  induction d with
  | zero =>
    intro i hi
    refine Ev.upS ?_
    simp only [impl_Join.l0, if_neg (show ¬ (i : Int) < (l.length : Int) by omega)]
    rw [show i = l.length by omega]
    exact Ev.now _
  | succ d ih =>
    intro i hi
    have hlt : i < l.length := by omega
    have h := ih (i + 1) (by omega)
    have hc1 : (i : Int) < (l.length : Int) := by omega
    have ew : wrap64 ((i : Int) + 1) = ((i + 1 : Nat) : Int) := by rw [w64 (by omega) (by omega)]; rfl
    obtain ⟨p, hp⟩ : ∃ p, p = (ndJ l i l.length).2 ^ 1073741787 % 1073741789 := ⟨_, rfl⟩
    have rp : 0 ≤ p ∧ p < 1073741789 := by rw [hp]; exact ⟨Int.emod_nonneg _ (by omega), Int.emod_lt_of_pos _ (by omega)⟩
    have rn := ndJ_range l i (hr i hlt).2 l.length
    have rs := sumJ_range l i
    have m1 := mulPQ rn.1.1 rn.1.2 rp.1 rp.2
    have e3 : Int.tmod (wrap64 (sumJ l i + (wrap64 ((ndJ l i l.length).1 * p)))) 1073741789 = sumJ l (i + 1) := by
      rw [w64 (n := (ndJ l i l.length).1 * p) (by omega) (by omega), w64 (by omega) (by omega), Int.tmod_eq_emod_of_nonneg (by omega)]
      show _ = (sumJ l i + (ndJ l i l.length).1 * ((ndJ l i l.length).2 ^ 1073741787 % 1073741789)) % 1073741789
      rw [← hp]
    refine Ev.upS ?_
    simp only [impl_Join.l0, if_pos hc1, if_pos (Int.natCast_nonneg i)]
    refine join_l1 l hl hr i hlt (sumJ l i) _ p hp ?_ l.length 0 (by omega)
    rw [e3, ew]
    exact h
section
variable (inv : FQ → FQ)
theorem P2_app (m : FQ) (T : List FQ) : ∀ S : List FQ, P2 inv m (S ++ T) = P2 inv m S * P2 inv m T
  | [] => by show P2 inv m T = 1 * P2 inv m T; grind
  | x :: S => by
    show x * inv (x - m) * P2 inv m (S ++ T) = x * inv (x - m) * P2 inv m S * P2 inv m T
    rw [P2_app m T S]
    grind
theorem Hh_at (f : FQ → FQ) (xs : List FQ) (i : Nat) (h : i < xs.length) : Hh inv (xs.drop i) (fun x => f x * P2 inv x (xs.take i)) = f xs[i] * (P2 inv xs[i] (xs.take i) * P2 inv xs[i] (xs.drop (i + 1))) + Hh inv (xs.drop (i + 1)) (fun x => f x * P2 inv x (xs.take (i + 1))) := by
  have e : xs.drop i = xs[i] :: xs.drop (i + 1) := List.drop_eq_getElem_cons h
  rw [e]
  show f xs[i] * P2 inv xs[i] (xs.take i) * P2 inv xs[i] (xs.drop (i + 1)) + Hh inv (xs.drop (i + 1)) (fun x => f x * P2 inv x (xs.take i) * (xs[i] * inv (xs[i] - x))) = _
  rw [Hh_congr inv (xs.drop (i + 1)) (fun x => f x * P2 inv x (xs.take i) * (xs[i] * inv (xs[i] - x))) (fun x => f x * P2 inv x (xs.take (i + 1))) (fun x _ => by
    rw [List.take_succ_eq_append_getElem h, P2_app]
    show f x * P2 inv x (xs.take i) * (xs[i] * inv (xs[i] - x)) = f x * (P2 inv x (xs.take i) * (xs[i] * inv (xs[i] - x) * 1))
    grind)]
  grind
end
theorem invE_mul (e : Nat) (a b : FQ) : invE e (a * b) = invE e a * invE e b := pwF_mul a b e
theorem invE_one (e : Nat) : invE e 1 = 1 := by
  show pwF 1 e = 1
  induction e with
  | zero => rfl
  | succ e ih => show 1 * pwF 1 e = 1; rw [ih]; grind
def xsF (l : List ShareS) : List FQ := l.map (fun s => toF s.f0)
theorem xsF_len (l : List ShareS) : (xsF l).length = l.length := by simp [xsF]
theorem xsF_at (l : List ShareS) (i : Nat) (h : i < (xsF l).length) : (xsF l)[i] = toF (shX l i) := by
  unfold shX
  rw [rdSh_nat (by rw [xsF_len] at h; exact h)]
  simp [xsF]
theorem nd_low (e : Nat) (l : List ShareS) (i : Nat) (hi : i < l.length) : ∀ q, q ≤ i → toF (ndJ l i q).1 * invE e (toF (ndJ l i q).2) = toF (shY l i) * P2 (invE e) (toF (shX l i)) ((xsF l).take q)
  | 0, _ => by
    show toF (shY l i) * invE e (toF 1) = toF (shY l i) * 1
    rw [toF_one, invE_one]
  | q + 1, h => by
    have ih := nd_low e l i hi q (by omega)
    have hq : q < (xsF l).length := by rw [xsF_len]; omega
    unfold ndJ
    rw [if_neg (show ¬ q = i by omega), List.take_succ_eq_append_getElem hq, P2_app, xsF_at l q hq]
    show toF ((ndJ l i q).1 * shX l q % 1073741789) * invE e (toF ((ndJ l i q).2 * ((shX l q - shX l i + 1073741789) % 1073741789) % 1073741789)) = toF (shY l i) * (P2 (invE e) (toF (shX l i)) ((xsF l).take q) * (toF (shX l q) * invE e (toF (shX l q) - toF (shX l i)) * 1))
    rw [toF_mod, toF_mod, toF_mul, toF_mul, toF_mod, toF_order, toF_sub, invE_mul]
    grind
theorem nd_high (e : Nat) (l : List ShareS) (i : Nat) (hi : i < l.length) (d : Nat) : i + 1 + d ≤ l.length → toF (ndJ l i (i + 1 + d)).1 * invE e (toF (ndJ l i (i + 1 + d)).2) = toF (shY l i) * (P2 (invE e) (toF (shX l i)) ((xsF l).take i) * P2 (invE e) (toF (shX l i)) (((xsF l).drop (i + 1)).take d)) := by
  induction d with
  | zero =>
    intro _
    have h := nd_low e l i hi i (Nat.le_refl _)
    have e1 : ndJ l i (i + 1 + 0) = ndJ l i i := by show ndJ l i (i + 1) = _; unfold ndJ; rw [if_pos rfl]; cases i <;> rfl
    rw [e1, h]
    show _ = toF (shY l i) * (P2 (invE e) (toF (shX l i)) ((xsF l).take i) * 1)
    grind
  | succ d ih =>
    intro h
    have ih := ih (by omega)
    have hq : i + 1 + d < (xsF l).length := by rw [xsF_len]; omega
    have hd : d < ((xsF l).drop (i + 1)).length := by rw [List.length_drop]; omega
    have e1 : ((xsF l).drop (i + 1))[d] = toF (shX l (i + 1 + d)) := by rw [List.getElem_drop, xsF_at l (i + 1 + d) hq]
    have e2 : ndJ l i (i + 1 + (d + 1)) = ((ndJ l i (i + 1 + d)).1 * shX l (i + 1 + d) % 1073741789, (ndJ l i (i + 1 + d)).2 * ((shX l (i + 1 + d) - shX l i + 1073741789) % 1073741789) % 1073741789) := by
      show ndJ l i (i + 1 + d + 1) = _
      conv => lhs; unfold ndJ
      rw [if_neg (show ¬ i + 1 + d = i by omega)]
    rw [e2, List.take_succ_eq_append_getElem hd, P2_app, e1]
    show toF ((ndJ l i (i + 1 + d)).1 * shX l (i + 1 + d) % 1073741789) * invE e (toF ((ndJ l i (i + 1 + d)).2 * ((shX l (i + 1 + d) - shX l i + 1073741789) % 1073741789) % 1073741789)) = toF (shY l i) * (P2 (invE e) (toF (shX l i)) ((xsF l).take i) * (P2 (invE e) (toF (shX l i)) (((xsF l).drop (i + 1)).take d) * (toF (shX l (i + 1 + d)) * invE e (toF (shX l (i + 1 + d)) - toF (shX l i)) * 1)))
    rw [toF_mod, toF_mod, toF_mul, toF_mul, toF_mod, toF_order, toF_sub, invE_mul]
    grind
theorem sum_H (l : List ShareS) (e : Nat) (he : e = 1073741787) (f : FQ → FQ) (hf : ∀ i, i < l.length → toF (shY l i) = f (toF (shX l i))) (d : Nat) :
    ∀ i, i + d = l.length → toF (sumJ l i) + Hh (invE e) ((xsF l).drop i) (fun x => f x * P2 (invE e) x ((xsF l).take i)) = toF (sumJ l l.length) := by
  induction d with
  | zero =>
    intro i hi
    rw [show i = l.length by omega, List.drop_of_length_le (by rw [xsF_len]; omega)]
    show toF (sumJ l l.length) + 0 = _
    grind
  | succ d ih =>
    intro i hi
    have hlt : i < l.length := by omega
    have hlx : i < (xsF l).length := by rw [xsF_len]; exact hlt
    rw [← ih (i + 1) (by omega), Hh_at (invE e) f (xsF l) i hlx, xsF_at l i hlx]
    have h := nd_high e l i hlt (l.length - (i + 1)) (by omega)
    have ht : ((xsF l).drop (i + 1)).take (l.length - (i + 1)) = (xsF l).drop (i + 1) := List.take_of_length_le (by rw [List.length_drop, xsF_len]; omega)
    rw [show i + 1 + (l.length - (i + 1)) = l.length by omega, ht] at h
    have h2 : toF (sumJ l (i + 1)) = toF (sumJ l i) + toF (ndJ l i l.length).1 * invE e (toF (ndJ l i l.length).2) := by
      show toF ((sumJ l i + (ndJ l i l.length).1 * ((ndJ l i l.length).2 ^ 1073741787 % 1073741789)) % 1073741789) = _
      rw [toF_mod, toF_add, toF_mul, toF_mod, ← he, toF_pow]
      rfl
    rw [h2, h, hf i hlt]
    grind
theorem join_back (l : List ShareS) (s : Int) (cs : List FQ) (hs : 0 ≤ s ∧ s < 1073741789) (hf : ∀ i, i < l.length → toF (shY l i) = toF s + polS (toF (shX l i)) cs 0) (hd : (xsF l).Nodup) (hl : cs.length + 1 ≤ l.length) : sumJ l l.length = s := by
  obtain ⟨e, he⟩ : ∃ e : Nat, e = 1073741787 := ⟨_, rfl⟩
  have h1 := sum_H l e he (fun x => toF s + polS x cs 0) hf l.length 0 (by omega)
  have h2 := shares_back (invE e) (invE_ok e (by omega)) (xsF l) hd (toF s) cs (by rw [xsF_len]; exact hl)
  rw [List.drop_zero, List.take_zero, Hh_congr (invE e) (xsF l) _ (fun x => toF s + polS x cs 0) (fun x _ => by show (toF s + polS x cs 0) * 1 = _; grind), h2] at h1
  refine toF_inj (sumJ_range l l.length) hs ?_
  rw [← h1]
  show toF 0 + toF s = toF s
  rw [toF_zero]
  grind
theorem nodup_ne {α : Type} {L : List α} (hd : L.Nodup) {i j : Nat} (hi : i < L.length) (hj : j < L.length) (hij : i < j) : L[i] ≠ L[j] := (List.pairwise_iff_getElem.1 (List.nodup_iff_pairwise_ne.1 hd)) i j hi hj hij
theorem good_all (l : List ShareS) (hr : okRange l) (hd : (l.map (·.f0)).Nodup) : ∀ n, n ≤ l.length → goodJ l n = true
  | 0, _ => rfl
  | n + 1, h => by
    unfold goodJ
    rw [good_all l hr hd n (by omega), Bool.true_and]
    have r := hr n (by omega)
    unfold shX shY at r
    unfold okJ
    rw [decide_eq_true r.1.1, decide_eq_true r.1.2, decide_eq_true r.2.1, decide_eq_true r.2.2]
    simp only [Bool.true_and]
    have hn : n < l.length := by omega
    rw [rdSh_nat hn, Bool.not_eq_true', Bool.eq_false_iff]
    intro hc
    rw [List.contains_iff_mem, List.map_take] at hc
    obtain ⟨j, hj, e⟩ := List.getElem_of_mem hc
    rw [List.length_take, List.length_map] at hj
    rw [List.getElem_take] at e
    have hjl : j < (l.map (·.f0)).length := by rw [List.length_map]; omega
    have hnl : n < (l.map (·.f0)).length := by rw [List.length_map]; omega
    have h2 : (l.map (·.f0))[j] = (l.map (·.f0))[n] := by rw [e]; simp
    exact nodup_ne hd hjl hnl (by omega) h2
theorem join_ev (l : List ShareS) (h1 : 1 ≤ l.length) (h2 : l.length ≤ 20) (hr : okRange l) (hd : (l.map (·.f0)).Nodup) : Ev (fun k => impl_Join.f k l) (sumJ l l.length, true) := by
  simp only [impl_Join.f, if_neg (show ¬ (l.length : Int) < 1 by omega), decide_eq_false (show ¬ (l.length : Int) > 20 by omega)]
  refine Ev.upS ?_
  have hb : badJ l = false := by unfold badJ; rw [good_all l hr hd _ (Nat.le_refl _)]; rfl
  simp only [impl_Join.j0, if_neg (show ¬ (false = true) by decide), hb]
  exact join_l0 l (by omega) hr l.length 0 (by omega)
theorem xsF_nodup (l : List ShareS) (hr : okRange l) (hd : (l.map (·.f0)).Nodup) : (xsF l).Nodup := by
  rw [List.nodup_iff_pairwise_ne, List.pairwise_iff_getElem]
  intro i j hi hj hij e
  have hil : i < l.length := by rw [xsF_len] at hi; exact hi
  have hjl : j < l.length := by rw [xsF_len] at hj; exact hj
  rw [xsF_at l i hi, xsF_at l j hj] at e
  have r1 := (hr i hil).1
  have r2 := (hr j hjl).1
  have h := toF_inj ⟨by omega, r1.2⟩ ⟨by omega, r2.2⟩ e
  unfold shX at h
  rw [rdSh_nat hil, rdSh_nat hjl] at h
  have h2 : (l.map (·.f0))[i]'(by rw [List.length_map]; exact hil) = (l.map (·.f0))[j]'(by rw [List.length_map]; exact hjl) := by simpa using h
  exact nodup_ne hd _ _ hij h2
end Go.Proofs.Ytccbjchlcelkgaa.Pr
namespace Go.Proofs.Ytccbjchlcelkgaa.Pr
open Go.RowKit Go.Proofs.Ytccbjchlcelkgaa.Read Go.Proofs.YtccbjchlcelkgaaW.PrintWords
theorem and255 (X : Int) : 0 ≤ Go.bits .and .u64 X 255 ∧ Go.bits .and .u64 X 255 ≤ 255 := by
  have h : ((BitVec.ofInt 64 X) &&& (BitVec.ofInt 64 255)).toNat ≤ 255 := by
    rw [BitVec.toNat_and]
    exact Nat.le_trans Nat.and_le_right (by decide)
  have e : Go.bits .and .u64 X 255 = IntKind.u64.wrap ((((BitVec.ofInt 64 X) &&& (BitVec.ofInt 64 255)).toNat : Nat) : Int) := rfl
  rw [e, IntKind.wrap_u64]
  omega
theorem cur_next (s : List Int) (hs : okL okB s) (p h : Int) (h0 : 0 ≤ p) (h1 : p ≤ 1000000000000) : ∃ v h', spec_l1Cur_next.f s p h = some (v, p + 1, h') ∧ 0 ≤ v ∧ v ≤ 255 := by
  have e : wrap64 (p + 1) = p + 1 := w64 (by omega) (by omega)
  unfold spec_l1Cur_next.f
  simp only [e]
  by_cases hp : p < (s.length : Int)
  · rw [if_pos hp, if_pos h0, if_pos (by omega)]
    have hm : rd s p ∈ s := by
      have : p.toNat < s.length := by omega
      simp [rd, List.getD_eq_getElem?_getD, List.getElem?_eq_getElem this]
    have hb : 0 ≤ rd s p ∧ rd s p ≤ 255 := hs.2 _ hm
    exact ⟨_, _, rfl, by rw [w64 (by omega) (by omega)]; exact hb.1, by rw [w64 (by omega) (by omega)]; exact hb.2⟩
  · rw [if_neg hp, if_neg (by omega)]
    have hb := and255 ((IntKind.u64.wrap ((IntKind.u64.wrap (IntKind.u64.wrap (h * 6364136223846793005))) + 1442695040888963407)) / 1099511627776)
    exact ⟨_, _, rfl, by rw [w64 (by omega) (by omega)]; exact hb.1, by rw [w64 (by omega) (by omega)]; exact hb.2⟩
theorem cur_pick (s : List Int) (hs : okL okB s) (p h n : Int) (h0 : 0 ≤ p) (h1 : p ≤ 999999999999) : ∃ v p' h', spec_l1Cur_pick.f s p h n = some (v, p', h') ∧ 0 ≤ v ∧ (v < n ∨ v = 0) ∧ p ≤ p' ∧ p' ≤ p + 2 := by
  unfold spec_l1Cur_pick.f
  by_cases hn : n ≤ 1
  · rw [if_pos hn]
    exact ⟨_, _, _, rfl, by omega, .inr rfl, by omega, by omega⟩
  · rw [if_neg hn]
    obtain ⟨v, h', e, v0, v1⟩ := cur_next s hs p h h0 (by omega)
    simp only [e, Option.bind_some]
    by_cases h2 : n > 200
    · rw [if_pos h2]
      obtain ⟨v2, h2', e2, v20, v21⟩ := cur_next s hs (p + 1) h' (by omega) (by omega)
      simp only [e2, Option.bind_some, if_neg (show ¬ n = 0 by omega), w64 (show -9223372036854775808 ≤ v * 256 by omega) (show v * 256 ≤ 9223372036854775807 by omega), w64 (show -9223372036854775808 ≤ v * 256 + v2 by omega) (show v * 256 + v2 ≤ 9223372036854775807 by omega)]
      refine ⟨_, _, _, rfl, ?_, .inl ?_, by omega, by omega⟩
      · rw [Int.tmod_eq_emod_of_nonneg (by omega)]; exact Int.emod_nonneg _ (by omega)
      · rw [Int.tmod_eq_emod_of_nonneg (by omega)]; exact Int.emod_lt_of_pos _ (by omega)
    · rw [if_neg h2, if_neg (show ¬ n = 0 by omega)]
      refine ⟨_, _, _, rfl, ?_, .inl ?_, by omega, by omega⟩
      · rw [Int.tmod_eq_emod_of_nonneg (by omega)]; exact Int.emod_nonneg _ (by omega)
      · rw [Int.tmod_eq_emod_of_nonneg (by omega)]; exact Int.emod_lt_of_pos _ (by omega)
theorem cur_one (s : List Int) (hs : okL okB s) (p h n : Int) (h0 : 0 ≤ p) (h1 : p ≤ 999999999999) : ∃ b p' h', spec_l1Cur_one.f s p h n = some (b, p', h') ∧ p ≤ p' ∧ p' ≤ p + 2 := by
  obtain ⟨v, p', h', e, _, _, g1, g2⟩ := cur_pick s hs p h n h0 h1
  unfold spec_l1Cur_one.f
  simp only [e, Option.bind_some]
  exact ⟨_, _, _, rfl, g1, g2⟩
end Go.Proofs.Ytccbjchlcelkgaa.Pr
namespace Go.Proofs.Ytccbjchlcelkgaa.Pr
open Go.RowKit Go.Proofs.YtccbjchlcelkgaaW.PrintWords Go.Proofs.YtccbjchlcelkgaaW.PrintLast Go.Proofs.YtccbjchlcelkgaaW.PrintMore
attribute [local go_sem] max2_int min2_int max_two min_two max_three min_three max_four min_four
set_option linter.unusedVariables false
set_option linter.unusedSimpArgs false
end Go.Proofs.Ytccbjchlcelkgaa.Pr
namespace Go.Proofs.Ytccbjchlcelkgaa.Pr
open Go.RowKit Go.Proofs.Ytccbjchlcelkgaa.Read Go.Proofs.YtccbjchlcelkgaaW.PrintWords
set_option linter.unusedVariables false
theorem bytes_l0 (s : List Int) (hs : okL okB s) (d : Nat) : ∀ (x5 : List Int) (p h : Int), 0 ≤ p → p + d ≤ 900000000000 → x5.length + d ≤ 1000000 → ∃ (L : List Int) (p' h' : Int), (∀ k, d < k → spec_l1Cur_bytes.l0 k x5 d s p h = some (x5 ++ L, p', h')) ∧ isBytes L ∧ L.length = d ∧ p ≤ p' ∧ p' ≤ p + d := by
  induction d with
  | zero =>
    intro x5 p h h0 h1 hl
    refine ⟨[], p, h, fun k hk => ?_, (by simp [isBytes]), rfl, by omega, by omega⟩
    obtain ⟨k, rfl⟩ : ∃ m, k = m + 1 := ⟨k - 1, by omega⟩
    simp only [spec_l1Cur_bytes.l0, if_neg (show ¬ (((0 : Nat) : Int) > 0) by omega), List.append_nil]
  | succ d ih =>
    intro x5 p h h0 h1 hl
    obtain ⟨v, h', e, v0, v1⟩ := cur_next s hs p h h0 (by omega)
    obtain ⟨L, p2, h2, hL, hb, hlen, g1, g2⟩ := ih (x5 ++ [v % 256]) (p + 1) h' (by omega) (by omega) (by rw [List.length_append, List.length_singleton]; omega)
    refine ⟨v % 256 :: L, p2, h2, fun k hk => ?_, ?_, by rw [List.length_cons, hlen], by omega, by omega⟩
    · obtain ⟨k, rfl⟩ : ∃ m, k = m + 1 := ⟨k - 1, by omega⟩
      have ed : wrap64 (((d + 1 : Nat) : Int) - 1) = (d : Int) := by rw [w64 (by omega) (by omega)]; omega
      simp only [spec_l1Cur_bytes.l0, if_pos (show (((d + 1 : Nat) : Int) > 0) by omega), e, Option.bind_some, if_pos (show x5.length < 140737488355328 by omega), ed]
      rw [hL k (by omega), List.append_assoc]
      rfl
    · intro x hx
      rcases List.mem_cons.1 hx with rfl | hx
      · omega
      · exact hb x hx
theorem cur_bytes (s : List Int) (hs : okL okB s) (p h : Int) (n : Nat) (hn : n ≤ 1000) (h0 : 0 ≤ p) (h1 : p ≤ 800000000000) : ∃ (L : List Int) (p' h' : Int), (∀ k, n < k → spec_l1Cur_bytes.f k s p h n = some (L, p', h')) ∧ isBytes L ∧ L.length ≤ n ∧ p ≤ p' ∧ p' ≤ p + 2 + n := by
  obtain ⟨v, p1, h1', e, v0, v1, g1, g2⟩ := cur_pick s hs p h n h0 (by omega)
  obtain ⟨m, rfl⟩ : ∃ m : Nat, v = m := ⟨v.toNat, by omega⟩
  obtain ⟨L, p2, h2, hL, hb, hlen, g3, g4⟩ := bytes_l0 s hs m [] p1 h1' (by omega) (by omega) (by simp; omega)
  refine ⟨L, p2, h2, fun k hk => ?_, hb, by omega, by omega, by omega⟩
  unfold spec_l1Cur_bytes.f
  simp only [e, Option.bind_some]
  rw [hL k (by omega)]
  rfl
theorem cur_secret (s : List Int) (hs : okL okB s) (p h : Int) (h0 : 0 ≤ p) (h1 : p ≤ 999999999000) : ∃ (x p' h' : Int), spec_l1Cur_secret.f s p h = some (x, p', h') ∧ p ≤ p' ∧ p' ≤ p + 6 := by
  obtain ⟨b, p1, h1', e, g1, g2⟩ := cur_one s hs p h 16 h0 (by omega)
  unfold spec_l1Cur_secret.f
  simp only [e, Option.bind_some]
  cases b with
  | true =>
    obtain ⟨v, p2, h2', e2, v0, v1, g3, g4⟩ := cur_pick s hs p1 h1' 6 (by omega) (by omega)
    simp only [if_true, e2, Option.bind_some, if_pos v0, List.length_cons, List.length_nil]
    rw [if_pos (by omega)]
    exact ⟨_, _, _, rfl, by omega, by omega⟩
  | false =>
    obtain ⟨v, p2, h2', e2, v0, v1, g3, g4⟩ := cur_pick s hs p1 h1' 60000 (by omega) (by omega)
    obtain ⟨v3, p3, h3', e3, v03, v13, g5, g6⟩ := cur_pick s hs p2 h2' 60000 (by omega) (by omega)
    simp only [Bool.false_eq_true, if_false, e2, e3, Option.bind_some]
    exact ⟨_, _, _, rfl, by omega, by omega⟩
end Go.Proofs.Ytccbjchlcelkgaa.Pr
namespace Go.Proofs.Ytccbjchlcelkgaa.Pr
open Go.RowKit Go.Proofs.Ytccbjchlcelkgaa.Read Go.Proofs.YtccbjchlcelkgaaW.PrintWords
set_option linter.unusedVariables false
theorem zero_bytes (n : Nat) : isBytes (List.replicate n 0) := by
  intro x hx
  obtain rfl := List.eq_of_mem_replicate hx
  omega
theorem cur_long (s : List Int) (hs : okL okB s) (p h : Int) (n : Nat) (hn : n ≤ 1000) (h0 : 0 ≤ p) (h1 : p ≤ 700000000000) : ∃ (L : List Int) (p' h' : Int), (∀ k, n < k → spec_l1Cur_long.f k s p h n = some (L, p', h')) ∧ isBytes L ∧ L.length ≤ 20001 ∧ p ≤ p' ∧ p' ≤ p + 4 + n := by
  obtain ⟨b, p2, h2, e2, a2, b2⟩ := cur_one s hs p h 40 h0 (by omega)
  cases b with
  | true =>
    obtain ⟨v, p5, h5, e5, v0, v1, a5, b5⟩ := cur_pick s hs p2 h2 3 (by omega) (by omega)
    have hw : wrap64 (19999 + v) = 19999 + v := w64 (by omega) (by omega)
    refine ⟨List.replicate (19999 + v).toNat 0, p5, h5, fun k hk => ?_, zero_bytes _, by rw [List.length_replicate]; omega, by omega, by omega⟩
    simp only [spec_l1Cur_long.f, e2, Option.bind_some, if_true, e5, hw, if_pos (show 0 ≤ 19999 + v by omega), if_pos (show (19999 + v).toNat ≤ 281474976710656 by omega)]
  | false =>
    obtain ⟨c, p3, h3, e3, hc, hcl, a3, b3⟩ := cur_bytes s hs p2 h2 n (by omega) (by omega) (by omega)
    refine ⟨c, p3, h3, fun k hk => ?_, hc, by omega, by omega, by omega⟩
    simp only [spec_l1Cur_long.f, e2, Option.bind_some, Bool.false_eq_true, if_false, e3 k (by omega)]
end Go.Proofs.Ytccbjchlcelkgaa.Pr
namespace Go.Proofs.Ytccbjchlcelkgaa.Pure
open Go.RowKit Go.Proofs.Ytccbjchlcelkgaa.Read Go.Proofs.YtccbjchlcelkgaaW.PrintWords Go.Proofs.Ytccbjchlcelkgaa.Pr Go.Proofs.Ytccbjchlcelkgaa.Lagr
set_option linter.unusedVariables false
set_option linter.unusedSimpArgs false
theorem draw_j0 (code : List Int) (hs : okL okB code) (x need many p h : Int) (h0 : 0 ≤ p) (h1 : p ≤ 100000) : ∃ (m : Int) (salt : List Int), Ev (fun k => spec_DrawSplit.j0 k x need many code p h) (x, many, m, salt) ∧ isBytes salt := by
  obtain ⟨b, p2, h2, e2, a2, b2⟩ := cur_one code hs p h 12 h0 (by omega)
  cases b with
  | true =>
    obtain ⟨v, p5, h5, e5, v0, v1, a5, b5⟩ := cur_pick code hs p2 h2 3 (by omega) (by omega)
    obtain ⟨L, p6, h6, e6, hL, _, _, _⟩ := cur_long code hs p5 h5 10 (by omega) (by omega) (by omega)
    refine ⟨rd ([0, many, wrap64 (many + 1)] : List Int) v, L, ?_, hL⟩
    refine Ev.upS ?_
    simp only [spec_DrawSplit.j0, e2, Option.bind_some, if_true, e5, if_pos v0, if_pos (show v < ((([0, many, wrap64 (many + 1)] : List Int)).length : Int) by simp only [List.length_cons, List.length_nil]; omega)]
    exact Ev.bind (⟨11, fun k hk => e6 k (by omega)⟩ : Ev (fun k => spec_l1Cur_long.f k code p5 h5 10) _) (Ev.now _)
  | false =>
    obtain ⟨L, p6, h6, e6, hL, _, _, _⟩ := cur_long code hs p2 h2 10 (by omega) (by omega) (by omega)
    refine ⟨need, L, ?_, hL⟩
    refine Ev.upS ?_
    simp only [spec_DrawSplit.j0, e2, Option.bind_some, if_neg (show ¬ (false = true) by decide)]
    exact Ev.bind (⟨11, fun k hk => e6 k (by omega)⟩ : Ev (fun k => spec_l1Cur_long.f k code p2 h2 10) _) (Ev.now _)
theorem draw_split (code : List Int) (hs : okL okB code) : ∃ (s many need : Int) (salt : List Int), Ev (fun k => spec_DrawSplit.f k code) (s, many, need, salt) ∧ isBytes salt := by
  have e0 : newCur.f code 0 0 = some (code, 0, 0) := rfl
  obtain ⟨x, p1, h1, e1, a1, b1⟩ := cur_secret code hs 0 0 (by omega) (by omega)
  obtain ⟨v, p2, h2, e2, v0, v1, a2, b2⟩ := cur_pick code hs p1 h1 5 (by omega) (by omega)
  obtain ⟨u, p3, h3, e3, u0, u1, a3, b3⟩ := cur_pick code hs p2 h2 5 (by omega) (by omega)
  obtain ⟨b, p4, h4, e4, a4, b4⟩ := cur_one code hs p3 h3 12 (by omega) (by omega)
  cases b with
  | true =>
    obtain ⟨t, p5, h5, e5, t0, t1, a5, b5⟩ := cur_pick code hs p4 h4 3 (by omega) (by omega)
    obtain ⟨m, salt, e6, hb⟩ := draw_j0 code hs x (wrap64 (1 + v)) (wrap64 (19 + t)) p5 h5 (by omega) (by omega)
    refine ⟨x, wrap64 (19 + t), m, salt, ?_, hb⟩
    simp only [spec_DrawSplit.f, e0, e1, e2, e3, e4, e5, Option.bind_some, if_true]
    exact e6
  | false =>
    obtain ⟨m, salt, e6, hb⟩ := draw_j0 code hs x (wrap64 (1 + v)) (wrap64 ((wrap64 (1 + v)) + u)) p4 h4 (by omega) (by omega)
    refine ⟨x, wrap64 ((wrap64 (1 + v)) + u), m, salt, ?_, hb⟩
    simp only [spec_DrawSplit.f, e0, e1, e2, e3, e4, Option.bind_some, if_neg (show ¬ (false = true) by decide)]
    exact e6
theorem split_len (s : Int) (many need : Nat) (salt : List Int) : (splitL s many need salt).length = many := by simp [splitL]
theorem split_at (s : Int) (many need : Nat) (salt : List Int) (i : Nat) (h : i < (splitL s many need salt).length) : (splitL s many need salt)[i] = ⟨((i + 1 : Nat) : Int), yN salt s ((i + 1 : Nat) : Int) (need - 1)⟩ := by simp [splitL]
def pickL (s : Int) (need : Nat) (salt : List Int) (is : List Nat) : List ShareS := is.map (fun i => ⟨((i + 1 : Nat) : Int), yN salt s ((i + 1 : Nat) : Int) (need - 1)⟩)
theorem pick_join (s : Int) (hs : 0 ≤ s ∧ s < 1073741789) (need : Nat) (salt : List Int) (is : List Nat) (hd : is.Nodup) (hb : ∀ i ∈ is, i < 20) (h1 : 1 ≤ is.length) (h2 : is.length ≤ 20) (hn : need - 1 + 1 ≤ is.length) : Ev (fun k => impl_Join.f k (pickL s need salt is)) (s, true) := by
  have hlen : (pickL s need salt is).length = is.length := by simp [pickL]
  have hx : ∀ i (h : i < is.length), shX (pickL s need salt is) i = ((is[i] + 1 : Nat) : Int) ∧ shY (pickL s need salt is) i = yN salt s ((is[i] + 1 : Nat) : Int) (need - 1) := by
    intro i h
    unfold shX shY
    rw [rdSh_nat (by rw [hlen]; exact h)]
    simp [pickL]
  have hr : okRange (pickL s need salt is) := by
    intro i hi
    rw [hlen] at hi
    obtain ⟨e1, e2⟩ := hx i hi
    have := hb _ (List.getElem_mem hi)
    rw [e1, e2]
    exact ⟨by omega, yN_range salt s _ hs _⟩
  have hnd : ((pickL s need salt is).map (·.f0)).Nodup := by
    rw [List.nodup_iff_pairwise_ne, List.pairwise_iff_getElem]
    intro i j hi hj hij e
    simp only [pickL, List.map_map, List.length_map, List.getElem_map, Function.comp] at hi hj e
    have := nodup_ne hd hi hj hij
    omega
  have hjoin := join_ev (pickL s need salt is) (by omega) (by omega) hr hnd
  have hback := join_back (pickL s need salt is) s (asL salt (need - 1)) hs (fun i hi => by
    rw [hlen] at hi
    obtain ⟨e1, e2⟩ := hx i hi
    rw [e1, e2]
    exact yN_F salt s _ _) (xsF_nodup _ hr hnd) (by rw [asL_len, hlen]; exact hn)
  rw [hback] at hjoin
  exact hjoin
theorem split_pick (s : Int) (many need : Nat) (salt : List Int) : splitL s many need salt = pickL s need salt (List.range many) := rfl
theorem shared_l1 (s : Int) (hs : 0 ≤ s ∧ s < 1073741789) (many need : Nat) (salt : List Int) (hn : 1 ≤ need ∧ need ≤ many ∧ many ≤ 20) (a : Nat) (ha : a < many) (d : Nat) :
    ∀ i : Nat, i + d = need → Ev (fun k => laws_FnShared.l1 k s (many : Int) (need : Int) (splitL s many need salt) (pickL s need salt ((List.range i).map (fun q => (a + q) % many))) (a : Int) (i : Int)) true := by
  induction d with
  | zero =>
    intro i hi
    refine Ev.upS ?_
    simp only [laws_FnShared.l1, if_neg (show ¬ (i : Int) < (need : Int) by omega)]
    have hnd : ((List.range i).map (fun q => (a + q) % many)).Nodup := by
      rw [List.nodup_iff_pairwise_ne, List.pairwise_iff_getElem]
      intro p q hp hq hpq e
      simp only [List.length_map, List.length_range] at hp hq
      simp only [List.getElem_map, List.getElem_range] at e
      by_cases c1 : a + p < many
      · by_cases c2 : a + q < many
        · rw [Nat.mod_eq_of_lt c1, Nat.mod_eq_of_lt c2] at e; omega
        · rw [Nat.mod_eq_of_lt c1, Nat.mod_eq_sub_mod (by omega), Nat.mod_eq_of_lt (by omega)] at e; omega
      · by_cases c2 : a + q < many
        · omega
        · rw [Nat.mod_eq_sub_mod (by omega), Nat.mod_eq_of_lt (by omega), Nat.mod_eq_sub_mod (by omega), Nat.mod_eq_of_lt (by omega)] at e; omega
    have hb : ∀ x ∈ (List.range i).map (fun q => (a + q) % many), x < 20 := by
      intro x hx
      obtain ⟨q, _, rfl⟩ := List.mem_map.1 hx
      have := Nat.mod_lt (a + q) (show 0 < many by omega)
      omega
    refine Ev.bind (pick_join s hs need salt _ hnd hb (by simp; omega) (by simp; omega) (by simp; omega)) ?_
    have h2 := pick_join s hs need salt (List.range many) List.nodup_range (fun x hx => by have := List.mem_range.1 hx; omega) (by simp; omega) (by simp; omega) (by simp; omega)
    rw [← split_pick] at h2
    refine Ev.bind h2 ?_
    simp only [if_true, beq_self_eq_true]
    exact Ev.now _
  | succ d ih =>
    intro i hi
    have h := ih (i + 1) (by omega)
    have e1 : Int.tmod (wrap64 ((a : Int) + (i : Int))) (many : Int) = (((a + i) % many : Nat) : Int) := by
      rw [w64 (by omega) (by omega), Int.tmod_eq_emod_of_nonneg (by omega)]
      rfl
    have hm := Nat.mod_lt (a + i) (show 0 < many by omega)
    have e2 : wrap64 ((i : Int) + 1) = ((i + 1 : Nat) : Int) := by rw [w64 (by omega) (by omega)]; rfl
    have hml : (a + i) % many < (splitL s many need salt).length := by rw [split_len]; exact hm
    have hlp : (pickL s need salt ((List.range i).map (fun q => (a + q) % many))).length < 8796093022208 := by simp [pickL]; omega
    have hc1 : (i : Int) < (need : Int) := by omega
    have hc2 : ¬ (many : Int) = 0 := by omega
    have hc3 : (((a + i) % many : Nat) : Int) < ((splitL s many need salt).length : Int) := by omega
    refine Ev.upS ?_
    simp only [laws_FnShared.l1, if_pos hc1, if_neg hc2, e1, if_pos (Int.natCast_nonneg ((a + i) % many)), if_pos hc3, if_pos hlp, e2, rdSh_nat hml, split_at]
    rw [List.range_succ, List.map_append, List.map_singleton] at h
    unfold pickL at h ⊢
    rw [List.map_append, List.map_singleton] at h
    exact h
theorem shared_l0 (s : Int) (hs : 0 ≤ s ∧ s < 1073741789) (many need : Nat) (salt more : List Int) (hmore : more.length ≤ 1048576) (hn : 1 ≤ need ∧ need ≤ many ∧ many ≤ 20) (d : Nat) :
    ∀ i : Nat, i + d = many → Ev (fun k => laws_FnShared.l0 k more s (many : Int) (need : Int) (splitL s many need salt) (splitL s many need salt) (many : Int) (i : Int)) true := by
  have hsl := split_len s many need salt
  induction d with
  | zero =>
    intro i hi
    refine Ev.upS ?_
    have hc : ¬ (i : Int) < (many : Int) := by omega
    have hc2 : ¬ ((splitL s many need salt).length : Int) = 0 := by omega
    have hc3 : ¬ (many : Int) = 0 := by omega
    have ha := Nat.mod_lt more.length (show 0 < many by omega)
    have e1 : (more.length : Int) % (many : Int) = ((more.length % many : Nat) : Int) := rfl
    have h := shared_l1 s hs many need salt hn (more.length % many) ha need 0 (by omega)
    simp only [laws_FnShared.l0, if_neg hc, if_neg hc2, if_neg hc3, e1]
    exact h
  | succ d ih =>
    intro i hi
    have h := ih (i + 1) (by omega)
    have e2 : wrap64 ((i : Int) + 1) = ((i + 1 : Nat) : Int) := by rw [w64 (by omega) (by omega)]; rfl
    have hc : (i : Int) < (many : Int) := by omega
    have hc2 : (i : Int) < ((splitL s many need salt).length : Int) := by omega
    refine Ev.upS ?_
    simp only [laws_FnShared.l0, if_pos hc, if_pos (Int.natCast_nonneg i), if_pos hc2, beq_self_eq_true, Bool.not_true, Bool.or_self, if_neg (show ¬ (false = true) by decide), e2]
    exact h
theorem FnShared : laws_FnShared.Pure := by
  intro code more hc hm
  apply Ev.rounds
  simp only [laws_FnShared.f]
  by_cases h1 : (code.length : Int) > 1048576
  · simp only [if_pos h1]; exact Ev.now _
  by_cases h2 : (more.length : Int) > 1048576
  · simp only [if_neg h1, if_pos h2]; exact Ev.now _
  simp only [if_neg h1, if_neg h2]
  obtain ⟨s, many, need, salt, ed, hb⟩ := draw_split code hc
  refine Ev.bind ed ?_
  refine Ev.bind (implSplit_ev s many need salt hb) ?_
  refine Ev.bind (specSplit_ev s many need salt hb) ?_
  simp only [if_true]
  unfold splitR
  by_cases hv : validS s many need salt
  · rw [if_pos hv]
    obtain ⟨v1, v2, v3, v4, v5, v6⟩ := hv
    have h := shared_l0 s ⟨v1, v2⟩ many.toNat need.toNat salt more (by omega) ⟨by omega, by omega, by omega⟩ many.toNat 0 (by omega)
    rw [split_len]
    rw [show ((many.toNat : Nat) : Int) = many by omega, show ((need.toNat : Nat) : Int) = need by omega] at h
    rw [show ((many.toNat : Nat) : Int) = many by omega]
    exact h
  · rw [if_neg hv]
    refine Ev.upS ?_
    simp only [laws_FnShared.l0, List.length_nil, if_neg (show ¬ (0 : Int) < ((0 : Nat) : Int) by omega)]
    exact Ev.now _
end Go.Proofs.Ytccbjchlcelkgaa.Pure
namespace Go.Proofs.Ytccbjchlcelkgaa.fnShared
open Go.ChangeShapes Go.WideShapes Go.ChangeAt Go.RowKit Go.Proofs.Ytccbjchlcelkgaa.Read Go.Proofs.YtccbjchlcelkgaaW.PrintWords Go.Proofs.Ytccbjchlcelkgaa.Pr
open Go.ChangeMaps (open_string shut_string)
set_option linter.unusedVariables false
theorem own : ownKnob Try.prog.godebug = none := by kernel_rfl
theorem laidOut : laidOutB Try.prog = true := by kernel_rfl
set_option maxRecDepth 100000 in
theorem lifted (os : Os) (started : os.Started) (H : Type) (enc : TypeId × Value → H) :
    ReturnsInHanded {} Try.checked os 7 .any (Rows.fnSharedSpec.pre6 enc Try.prog Try.f7 Rows.fnSharedRow.domain false) (Rows.fnSharedSpec.post enc Try.prog Try.f7 false true false false) := by
  refine returnsInHanded_of_change (C := Try.checked) own started (by kernel_rfl) Try.func7
    (ChangeSpec.witness6 (enc := enc) (C := Try.checked) false ⟨#[], #[.slice none 0 0, .slice none 0 0], []⟩ 8 (by kernel_rfl) (by kernel_rfl) (by kernel_rfl) (by kernel_rfl)) ?_
  intro W base args ds gs before hval0 hW hcnd _
  have hval : ∀ (j : Nat) t v, Try.f7.params[j]? = some t → args[j]? = some v → Value.okWide Try.prog W .any base t v := hval0
  have hW' := hW
  obtain ⟨p, q, hA0, hV, rfl, hfz, hnd⟩ := hW
  have hA : DataW.TrodAll enc Try.prog W 0 (fun _ => true) true Try.f7.params.toList args.toList ds p := hA0
  rw [Try.params7] at hA hval
  obtain ⟨v0, vs0, d0, ds0, p0, q0, hargs, rfl, rfl, h0, r0⟩ := trodAll_cons hA
  obtain ⟨v1, vs1, d1, ds1, p1, q1, rfl, rfl, rfl, h1, r1⟩ := trodAll_cons r0
  obtain ⟨rfl, rfl, rfl⟩ := trodAll_nil r1
  obtain rfl : args = #[v0, v1] := by cases args; simp_all
  obtain ⟨rfl, rfl⟩ := trodVars_none hV
  have lt0 : ∀ x ∈ p0, x.block < W.heap.size := by obtain ⟨m, hm⟩ := h0; exact DataW.trod_lt m _ _ _ hm
  have bk0 := fun {W' : World} (bel : Below W.heap.size W W') => Below.trod laidOut (by kernel_rfl) (of_decide_eq_true (by kernel_rfl)) h0 bel lt0
  obtain ⟨A0, c0, l0, rfl, hl0, hC0, o0⟩ := arg_slice Try.underlying22 (tellsL Try.underlying22 (by kernel_rfl) (tellsB Try.underlying5 (by kernel_rfl))) (hval 0 22 v0 rfl rfl) h0
  have lt1 : ∀ x ∈ p1, x.block < W.heap.size := by obtain ⟨m, hm⟩ := h1; exact DataW.trod_lt m _ _ _ hm
  have bk1 := fun {W' : World} (bel : Below W.heap.size W W') => Below.trod laidOut (by kernel_rfl) (of_decide_eq_true (by kernel_rfl)) h1 bel lt1
  obtain ⟨A1, c1, l1, rfl, hl1, hC1, o1⟩ := arg_slice Try.underlying22 (tellsL Try.underlying22 (by kernel_rfl) (tellsB Try.underlying5 (by kernel_rfl))) (hval 1 22 v1 rfl rfl) h1
  obtain ⟨k, hk⟩ := Pure.FnShared l0 l1 o0 o1
  refine (laws_FnShared.calls k _ _ l0 _ _ l1 true W hC0 hl0 hC1 hl1 hk).mono fun e W' hpost => ?_
  obtain ⟨he, hb⟩ := hpost
  have bel : Below W.heap.size W W' := hb
  subst he
  exact ⟨_, rfl, _, _, _, [], _, [], hW', trodAll_mk1 (shut_bool Try.underlying4 _), (trodAll_cons_mk (bk0 bel) (trodAll_cons_mk (bk1 bel) trodAll_mk0)), rfl, bel.frame _, fun h => by cases h⟩
theorem over : Rows.fnSharedRow.holds Try.pinned (OpenSpec.ofChange Rows.fnSharedSpec) :=
  OpenClaim.holds_of_wide 7 Try.f7 rfl rfl rfl rfl rfl rfl rfl ⟨rfl, rfl, rfl, rfl, rfl⟩ rfl rfl rfl rfl rfl (by kernel_rfl) Try.func7 (by kernel_rfl)
    (of_decide_eq_true (by kernel_rfl)) (by unfold Func.isWrapper; first | (rw [if_pos (by decide +kernel)]; kernel_rfl) | (rw [if_neg (by decide +kernel)]; exact ⟨rfl, rfl⟩))
    (fun os started H enc _ => lifted os started H enc)
theorem proved : Rows.FnSharedSaid := over
#print axioms proved
end Go.Proofs.Ytccbjchlcelkgaa.fnShared
namespace Go.Proofs.Ytccbjchlcelkgaa
theorem fnShared_holds : Rows.FnSharedSaid := fnShared.proved
end Go.Proofs.Ytccbjchlcelkgaa
