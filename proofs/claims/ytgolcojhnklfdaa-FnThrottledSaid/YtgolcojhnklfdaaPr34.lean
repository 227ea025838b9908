-- Written by mkprint.py (a program of this repo, which drives the print.py of the kit): Lean checks it.
import Derived.Test.YtgolcojhnklfdaaPr0x
import Derived.Test.YtgolcojhnklfdaaHbytes
import Derived.Test.YtgolcojhnklfdaaPr88
import Derived.Test.YtgolcojhnklfdaaPr89
import Derived.Test.YtgolcojhnklfdaaPr90
import Derived.Test.YtgolcojhnklfdaaPrcur
namespace Go.Proofs.Ytgolcojhnklfdaa.Pr
open Go.RowKit Go.Proofs.YtgolcojhnklfdaaW.PrintWords Go.Proofs.YtgolcojhnklfdaaW.PrintLast Go.Proofs.YtgolcojhnklfdaaW.PrintMore
attribute [local go_sem] max2_int min2_int max_two min_two max_three min_three max_four min_four   -- for this text's walks alone
set_option linter.unusedVariables false
set_option linter.unusedSimpArgs false

/-! ### spec_DrawRunTries: function 34 -/
def spec_DrawRunTries.l0 : Nat → List (S70) → Int → Int → List Int → Int → Int → Option ((List (S70)))
  | 0, _, _, _, _, _, _ => none
  | k + 1, x4, x5, x6, x105000, x105001, x105002 => if x6 > 0 then ((spec_l1Cur_pick.f x105000 x105001 x105002 40).bind fun bt109 => ((spec_l1Cur_one.f x105000 bt109.2.1 bt109.2.2 20).bind fun bt112 => (if bt112.1 = true then ((spec_l1Cur_one.f x105000 bt112.2.1 bt112.2.2 6).bind fun bt115 => (if x4.length < 8796093022208 then (spec_DrawRunTries.l0 k (x4 ++ [(⟨wrap64 ((wrap64 (x5 + bt109.1)) - 60), bt115.1⟩ : S70)]) (wrap64 ((wrap64 (x5 + bt109.1)) - 60)) (wrap64 (x6 - 1)) x105000 bt115.2.1 bt115.2.2) else (none))) else ((spec_l1Cur_one.f x105000 bt112.2.1 bt112.2.2 6).bind fun bt121 => (if x4.length < 8796093022208 then (spec_DrawRunTries.l0 k (x4 ++ [(⟨wrap64 (x5 + bt109.1), bt121.1⟩ : S70)]) (wrap64 (x5 + bt109.1)) (wrap64 (x6 - 1)) x105000 bt121.2.1 bt121.2.2) else (none)))))) else (some x4)
def spec_DrawRunTries.f (k : Nat) (l0 : List Int) : Option ((List (S70))) := (newCur.f l0 0 0).bind fun bt101 => ((spec_l1Many.f l0 10 30).bind fun t105 => ((spec_l1Cur_pick.f bt101.1 bt101.2.1 bt101.2.2 (wrap64 (12 + t105))).bind fun bt106 => (spec_DrawRunTries.l0 k ([] : List (S70)) 0 bt106.1 bt101.1 bt106.2.1 bt106.2.2)))
theorem spec_DrawRunTries.mono_l : ∀ k, (∀ y0 y1 y2 y3 y4 y5, LeO (spec_DrawRunTries.l0 k y0 y1 y2 y3 y4 y5) (spec_DrawRunTries.l0 (k + 1) y0 y1 y2 y3 y4 y5))
  | 0 => fun _ _ _ _ _ _ r h => by simp [spec_DrawRunTries.l0] at h
  | k + 1 => by
    have ih0 := spec_DrawRunTries.mono_l k
    · intro y0 y1 y2 y3 y4 y5
      unfold spec_DrawRunTries.l0
      repeat' first
      | (with_reducible exact ih0 _ _ _ _ _ _)
      | (with_reducible exact LeO.refl _)
      | (with_reducible exact LeO.none _)
      | (with_reducible refine LeO.ite ?_ ?_)
      | (with_reducible refine LeO.bind ?_ (fun _ => ?_))
      | exact ih0 _ _ _ _ _ _
      | exact LeO.none _
      | refine LeO.ite ?_ ?_
      | refine LeO.bind ?_ (fun _ => ?_)
theorem spec_DrawRunTries.mono : ∀ a0 k, LeO (spec_DrawRunTries.f k a0) (spec_DrawRunTries.f (k + 1) a0) := by
  intro a0 k
  have ih0 := spec_DrawRunTries.mono_l k
  unfold spec_DrawRunTries.f
  repeat' first
      | (with_reducible exact ih0 _ _ _ _ _ _)
      | (with_reducible exact LeO.refl _)
      | (with_reducible exact LeO.none _)
      | (with_reducible refine LeO.ite ?_ ?_)
      | (with_reducible refine LeO.bind ?_ (fun _ => ?_))
      | exact ih0 _ _ _ _ _ _
      | exact LeO.none _
      | refine LeO.ite ?_ ?_
      | refine LeO.bind ?_ (fun _ => ?_)
set_option maxHeartbeats 8000000 in
set_option maxRecDepth 100000 in
theorem spec_DrawRunTries.calls (k : Nat) (A0 : Option Addr) (c0 : Nat) (l0 : List Int) (r : List (S70)) (w : World) (hr0 : Kd.C (Kd.int .u8) w A0 l0.length l0) (hc0 : l0.length ≤ c0) (h : spec_DrawRunTries.f k l0 = some r) :
    Calls Try.prog 34 #[.slice A0 l0.length c0] w fun e w' => ∃ v0_ : Value, e = .returned (v0_) ∧ Kd.R k70 70 w' w.heap.size (fun _ => True) v0_ r ∧ Below w.heap.size w w' := by
  have hu119 := Try.underlying119
  have hu70 := Try.underlying70
  have HR0 := Aside0.mk hr0
  have HC0 := Aside0.mk hc0
  clear hr0 hc0
  have HB := Aside0.mk (Below.refl w.heap.size w)
  have H : ((newCur.f l0 0 0).bind fun bt101 => ((spec_l1Many.f l0 10 30).bind fun t105 => ((spec_l1Cur_pick.f bt101.1 bt101.2.1 bt101.2.2 (wrap64 (12 + t105))).bind fun bt106 => (spec_DrawRunTries.l0 k ([] : List (S70)) 0 bt106.1 bt101.1 bt106.2.1 bt106.2.2)))) = some r := h
  clear h
  replace H := Option.bind_eq_some_iff.mp H
  obtain ⟨⟨t101, t102, t103⟩, A20, H⟩ := H
  replace H : ((spec_l1Many.f l0 10 30).bind fun t105 => ((spec_l1Cur_pick.f t101 t102 t103 (wrap64 (12 + t105))).bind fun bt106 => (spec_DrawRunTries.l0 k ([] : List (S70)) 0 bt106.1 t101 bt106.2.1 bt106.2.2))) = some r := H
  have A2 := Aside0.mk A20
  clear A20
  replace H := Option.bind_eq_some_iff.mp H
  obtain ⟨t105, A30, H⟩ := H
  replace H : ((spec_l1Cur_pick.f t101 t102 t103 (wrap64 (12 + t105))).bind fun bt106 => (spec_DrawRunTries.l0 k ([] : List (S70)) 0 bt106.1 t101 bt106.2.1 bt106.2.2)) = some r := H
  have A3 := Aside0.mk A30
  clear A30
  replace H := Option.bind_eq_some_iff.mp H
  obtain ⟨⟨t106, t107, t108⟩, A40, H⟩ := H
  replace H : (spec_DrawRunTries.l0 k ([] : List (S70)) 0 t106 t101 t107 t108) = some r := H
  have A4 := Aside0.mk A40
  clear A40
  have H' := Aside0.mk H
  clear H
  go_enter Try.func34, Try.ntmps34
  go_wp2_with (first | ((with_reducible refine gate_box (t := 119) rfl ?_); refine boxGoesL_ (some 9) rfl rfl (t := 119) (cs := #[.slice A0 l0.length c0, .int .i64 0, .int .u64 0]) (by first | (go_simp; done) | (go_simp; rfl)) ?_; (with_reducible refine (newCur.calls _ _ l0 0 0 t101 t102 t103 w _ ?side1 ?side2 ?side3 A2.out).mono ?_); (case side1 => repeat (first | (with_reducible first | exact HB.out | apply below_alloc | apply pw_below_drewN | apply below_drew1) | exact HB.out)); (case side2 => exact HR0.out); (case side3 => exact HC0.out); rintro e w5 ⟨g104, rfl, hi, hb, hb2⟩; refine ⟨_, rfl, ?_⟩; have n0_ := Aside0.mk (hb); have n1_ := Aside0.mk (hi); clear HB; have HB := n0_; have HI104 := n1_; clear n0_ n1_; (try clear hb); (try clear hb2); (try clear hk); (try clear hi)) | ((with_reducible refine gate_callee (f := 89) rfl ?_); refine goesL_ (some 12) rfl rfl Try.func89 (by kernel_rfl) rfl #[.slice A0 l0.length c0, .int .i64 10, .int .i64 30] rfl (by (try simp only [List.map_toArray, List.map_cons, List.map_nil]); first | done | rfl | (simp only [List.length_drop, List.length_take]; rfl)) ?_; (with_reducible refine (spec_l1Many.calls _ _ l0 10 30 t105 _ ?side1 ?side2 A3.out).mono ?_); (case side1 => repeat (first | exact (Kd.C_below HR0.out HB.out) | (with_reducible refine Kd.C_alloc ?_ _) | (with_reducible refine Kd.C_drewN ?_ _) | (with_reducible refine Kd.C_drew ?_))); (case side2 => exact HC0.out); rintro e w' ⟨rfl, ⟨nd, rfl⟩⟩; refine ⟨_, rfl, ?_⟩) | ((with_reducible refine gate_callee (f := 88) rfl ?_); refine goesL_ (some 14) rfl rfl Try.func88 (by kernel_rfl) rfl #[.pointer (some ⟨g104, 0, none⟩), .int .i64 (wrap64 (12 + t105))] rfl (by (try simp only [List.map_toArray, List.map_cons, List.map_nil]); first | done | rfl | (simp only [List.length_drop, List.length_take]; rfl)) ?_; (with_reducible refine (spec_l1Cur_pick.calls g104 t101 t102 t103 (wrap64 (12 + t105)) t106 t107 t108 w _ ?side1 ?side2 A4.out).mono ?_); (case side1 => repeat (first | (with_reducible first | exact HI104.out | apply IsS119.alloc | apply IsS119.drewN | apply IsS119.drew | apply IsS119.set_1 | apply IsS119.set_2) | exact HI104.out)); (case side2 => repeat (first | (with_reducible first | exact HB.out | apply below_alloc | apply pw_below_drewN | apply below_drew1 | refine below_set ?_ (IsS119.ge HI104.out)) | exact HB.out)); rintro e w6 ⟨rfl, hi, hb, hk⟩; refine ⟨_, rfl, ?_⟩; have n0_ := Aside0.mk (hb); have n1_ := Aside0.mk (hi); clear HB; clear HI104; have HB := n0_; have HI104 := n1_; clear n0_ n1_; (try clear hb); (try clear hb2); (try clear hk); (try clear hi)))
  go_loopg [4, 5, 6] k (fun kq v4 v5 v6 w' => ∃ (x4_1 : List (S70)) (x5_1 : Int) (x6_1 : Int) (x105001_1 : Int) (x105002_1 : Int), v5 = .int .i64 x5_1 ∧ v6 = .int .i64 x6_1 ∧ Aside0 (spec_DrawRunTries.l0 kq x4_1 x5_1 x6_1 t101 x105001_1 x105002_1 = some r) ∧ Aside0 (kq ≤ k) ∧ Aside0 (Kd.R k70 70 w' w.heap.size (fun _ => True) v4 x4_1) ∧ Aside0 (IsS119 w w' g104 t101 x105001_1 x105002_1) ∧ Aside0 (Below w.heap.size w w'))
  case atStart => exact ⟨(([] : List (S70))), (0), (t106), (t107), (t108), (by first | rfl | (simp; done) | (simp [*]; done)), (by first | rfl | (simp; done) | (simp [*]; done)), H', ⟨Nat.le_refl _⟩, ⟨by first | exact Kd.R_nil _ _ _ _ _ | exact Kd.N_nil _ _ _ _ _ | exact Kd.V_nil _ _ _ _ _ | exact Kd.Q_nil _ _ _ _ _ | exact Kd.S_nil _ _ _ _ _⟩, ⟨by repeat (first | (with_reducible first | exact HI104.out | apply IsS119.alloc | apply IsS119.drewN | apply IsS119.drew | apply IsS119.set_1 | apply IsS119.set_2) | exact HI104.out)⟩, ⟨by repeat (first | (with_reducible first | exact HB.out | apply below_alloc | apply pw_below_drewN | apply below_drew1 | refine below_set ?_ (IsS119.ge HI104.out)) | exact HB.out)⟩⟩
  case round =>
    clear H'
    try clear c1
    try clear p2
    try clear c3
    try clear p6
    obtain ⟨x4_1, x5_1, x6_1, x105001_1, x105002_1, rfl, rfl, HA, HK1, HO_4, HI104, HB⟩ := hrel
    cases gk with
    | zero => exact absurd HA.out (by simp [spec_DrawRunTries.l0])
    | succ k1 =>
      have H := HA.out
      clear HA
      simp only [spec_DrawRunTries.l0] at H
      by_cases c7 : x6_1 > 0
      · rw [if_pos c7] at H
        have c7b0 : decide (0 < x6_1) = true := decide_eq_true c7
        clear c7
        replace H := Option.bind_eq_some_iff.mp H
        obtain ⟨⟨t109, t110, t111⟩, A80, H⟩ := H
        replace H : ((spec_l1Cur_one.f t101 t110 t111 20).bind fun bt112 => (if bt112.1 = true then ((spec_l1Cur_one.f t101 bt112.2.1 bt112.2.2 6).bind fun bt115 => (if x4_1.length < 8796093022208 then (spec_DrawRunTries.l0 k1 (x4_1 ++ [(⟨wrap64 ((wrap64 (x5_1 + t109)) - 60), bt115.1⟩ : S70)]) (wrap64 ((wrap64 (x5_1 + t109)) - 60)) (wrap64 (x6_1 - 1)) t101 bt115.2.1 bt115.2.2) else (none))) else ((spec_l1Cur_one.f t101 bt112.2.1 bt112.2.2 6).bind fun bt121 => (if x4_1.length < 8796093022208 then (spec_DrawRunTries.l0 k1 (x4_1 ++ [(⟨wrap64 (x5_1 + t109), bt121.1⟩ : S70)]) (wrap64 (x5_1 + t109)) (wrap64 (x6_1 - 1)) t101 bt121.2.1 bt121.2.2) else (none))))) = some r := H
        have A8 := Aside0.mk A80
        clear A80
        replace H := Option.bind_eq_some_iff.mp H
        obtain ⟨⟨t112, t113, t114⟩, A90, H⟩ := H
        replace H : (if t112 = true then ((spec_l1Cur_one.f t101 t113 t114 6).bind fun bt115 => (if x4_1.length < 8796093022208 then (spec_DrawRunTries.l0 k1 (x4_1 ++ [(⟨wrap64 ((wrap64 (x5_1 + t109)) - 60), bt115.1⟩ : S70)]) (wrap64 ((wrap64 (x5_1 + t109)) - 60)) (wrap64 (x6_1 - 1)) t101 bt115.2.1 bt115.2.2) else (none))) else ((spec_l1Cur_one.f t101 t113 t114 6).bind fun bt121 => (if x4_1.length < 8796093022208 then (spec_DrawRunTries.l0 k1 (x4_1 ++ [(⟨wrap64 (x5_1 + t109), bt121.1⟩ : S70)]) (wrap64 (x5_1 + t109)) (wrap64 (x6_1 - 1)) t101 bt121.2.1 bt121.2.2) else (none)))) = some r := H
        have A9 := Aside0.mk A90
        clear A90
        by_cases c10 : t112 = true
        · subst c10
          have H1 : ((spec_l1Cur_one.f t101 t113 t114 6).bind fun bt115 => (if x4_1.length < 8796093022208 then (spec_DrawRunTries.l0 k1 (x4_1 ++ [(⟨wrap64 ((wrap64 (x5_1 + t109)) - 60), bt115.1⟩ : S70)]) (wrap64 ((wrap64 (x5_1 + t109)) - 60)) (wrap64 (x6_1 - 1)) t101 bt115.2.1 bt115.2.2) else (none))) = some r := by rw [if_pos rfl] at H; exact H
          clear H
          have H := H1
          clear H1
          replace H := Option.bind_eq_some_iff.mp H
          obtain ⟨⟨t115, t116, t117⟩, A110, H⟩ := H
          replace H : (if x4_1.length < 8796093022208 then (spec_DrawRunTries.l0 k1 (x4_1 ++ [(⟨wrap64 ((wrap64 (x5_1 + t109)) - 60), t115⟩ : S70)]) (wrap64 ((wrap64 (x5_1 + t109)) - 60)) (wrap64 (x6_1 - 1)) t101 t116 t117) else (none)) = some r := H
          have A11 := Aside0.mk A110
          clear A110
          by_cases c12 : x4_1.length < 8796093022208
          · rw [if_pos c12] at H
            have LMc12 := Aside0.mk c12
            clear c12
            obtain ⟨y118, hy118⟩ : ∃ y_ : List (S70), y_ = (x4_1 ++ [(⟨wrap64 ((wrap64 (x5_1 + t109)) - 60), t115⟩ : S70)]) := ⟨_, rfl⟩
            replace H : (spec_DrawRunTries.l0 k1 y118 (wrap64 ((wrap64 (x5_1 + t109)) - 60)) (wrap64 (x6_1 - 1)) t101 t116 t117) = some r := by first | (rw [hy118]; with_reducible exact H) | (have H2_ := (Option.bind_some _ _).symm.trans H; rw [hy118]; with_reducible exact H2_) | (have H2_ := (Option.bind_some _ _).symm.trans H; with_reducible exact H2_) | with_reducible exact H | (rw [hy118]; exact H) | exact H
            have Ny118 := Aside0.mk hy118
            clear hy118
            have H' := Aside0.mk H
            clear H
            go_wp2_with (first | ((with_reducible refine gate_callee (f := 88) rfl ?_); refine goesL_ (some 21) rfl rfl Try.func88 (by kernel_rfl) rfl #[.pointer (some ⟨g104, 0, none⟩), .int .i64 40] rfl (by (try simp only [List.map_toArray, List.map_cons, List.map_nil]); first | done | rfl | (simp only [List.length_drop, List.length_take]; rfl)) ?_; (with_reducible refine (spec_l1Cur_pick.calls g104 t101 x105001_1 x105002_1 40 t109 t110 t111 w _ ?side1 ?side2 A8.out).mono ?_); (case side1 => repeat (first | (with_reducible first | exact HI104.out | apply IsS119.alloc | apply IsS119.drewN | apply IsS119.drew | apply IsS119.set_1 | apply IsS119.set_2) | exact HI104.out)); (case side2 => repeat (first | (with_reducible first | exact HB.out | apply below_alloc | apply pw_below_drewN | apply below_drew1 | refine below_set ?_ (IsS119.ge HI104.out)) | exact HB.out)); rintro e w13 ⟨rfl, hi, hb, hk⟩; refine ⟨_, rfl, ?_⟩; have n0_ := Aside0.mk (Kd.R_mono (Kd.R_keep (IsS119.apart (show IsS119 w _ g104 t101 x105001_1 x105002_1 from by repeat (first | (with_reducible first | exact HI104.out | apply IsS119.alloc | apply IsS119.drewN | apply IsS119.drew | apply IsS119.set_1 | apply IsS119.set_2) | exact HI104.out)) (by (with_reducible repeat (first | apply Kd.R_alloc | apply Kd.R_drewN | apply Kd.R_drew)); exact HO_4.out) (by decide)) hk (fun _ h => h.2)) (fun _ h => h.1)); have n1_ := Aside0.mk (hb); have n2_ := Aside0.mk (hi); clear HO_4; clear HB; clear HI104; have HO_4 := n0_; have HB := n1_; have HI104 := n2_; clear n0_ n1_ n2_; (try clear hb); (try clear hb2); (try clear hk); (try clear hi)) | ((with_reducible refine gate_callee (f := 90) rfl ?_); refine goesL_ (some 24) rfl rfl Try.func90 (by kernel_rfl) rfl #[.pointer (some ⟨g104, 0, none⟩), .int .i64 20] rfl (by (try simp only [List.map_toArray, List.map_cons, List.map_nil]); first | done | rfl | (simp only [List.length_drop, List.length_take]; rfl)) ?_; (with_reducible refine (spec_l1Cur_one.calls g104 t101 t110 t111 20 true t113 t114 w _ ?side1 ?side2 A9.out).mono ?_); (case side1 => repeat (first | (with_reducible first | exact HI104.out | apply IsS119.alloc | apply IsS119.drewN | apply IsS119.drew | apply IsS119.set_1 | apply IsS119.set_2) | exact HI104.out)); (case side2 => repeat (first | (with_reducible first | exact HB.out | apply below_alloc | apply pw_below_drewN | apply below_drew1 | refine below_set ?_ (IsS119.ge HI104.out)) | exact HB.out)); rintro e w14 ⟨rfl, hi, hb, hk⟩; refine ⟨_, rfl, ?_⟩; have n0_ := Aside0.mk (Kd.R_mono (Kd.R_keep (IsS119.apart (show IsS119 w _ g104 t101 t110 t111 from by repeat (first | (with_reducible first | exact HI104.out | apply IsS119.alloc | apply IsS119.drewN | apply IsS119.drew | apply IsS119.set_1 | apply IsS119.set_2) | exact HI104.out)) (by (with_reducible repeat (first | apply Kd.R_alloc | apply Kd.R_drewN | apply Kd.R_drew)); exact HO_4.out) (by decide)) hk (fun _ h => h.2)) (fun _ h => h.1)); have n1_ := Aside0.mk (hb); have n2_ := Aside0.mk (hi); clear HO_4; clear HB; clear HI104; have HO_4 := n0_; have HB := n1_; have HI104 := n2_; clear n0_ n1_ n2_; (try clear hb); (try clear hb2); (try clear hk); (try clear hi)) | ((with_reducible refine gate_callee (f := 90) rfl ?_); refine goesL_ (some 30) rfl rfl Try.func90 (by kernel_rfl) rfl #[.pointer (some ⟨g104, 0, none⟩), .int .i64 6] rfl (by (try simp only [List.map_toArray, List.map_cons, List.map_nil]); first | done | rfl | (simp only [List.length_drop, List.length_take]; rfl)) ?_; (with_reducible refine (spec_l1Cur_one.calls g104 t101 t113 t114 6 t115 t116 t117 w _ ?side1 ?side2 A11.out).mono ?_); (case side1 => repeat (first | (with_reducible first | exact HI104.out | apply IsS119.alloc | apply IsS119.drewN | apply IsS119.drew | apply IsS119.set_1 | apply IsS119.set_2) | exact HI104.out)); (case side2 => repeat (first | (with_reducible first | exact HB.out | apply below_alloc | apply pw_below_drewN | apply below_drew1 | refine below_set ?_ (IsS119.ge HI104.out)) | exact HB.out)); rintro e w15 ⟨rfl, hi, hb, hk⟩; refine ⟨_, rfl, ?_⟩; have n0_ := Aside0.mk (Kd.R_mono (Kd.R_keep (IsS119.apart (show IsS119 w _ g104 t101 t113 t114 from by repeat (first | (with_reducible first | exact HI104.out | apply IsS119.alloc | apply IsS119.drewN | apply IsS119.drew | apply IsS119.set_1 | apply IsS119.set_2) | exact HI104.out)) (by (with_reducible repeat (first | apply Kd.R_alloc | apply Kd.R_drewN | apply Kd.R_drew)); exact HO_4.out) (by decide)) hk (fun _ h => h.2)) (fun _ h => h.1)); have n1_ := Aside0.mk (hb); have n2_ := Aside0.mk (hi); clear HO_4; clear HB; clear HI104; have HO_4 := n0_; have HB := n1_; have HI104 := n2_; clear n0_ n1_ n2_; (try clear hb); (try clear hb2); (try clear hk); (try clear hi)) | ((with_reducible refine gate_builtin (b := .append) (xs := #[.tmp 27, .tmp 32]) rfl ?_); at_builtin; refine Kd.R_append k70 (w0 := w) w.heap.size rfl (.tmp 27) (.tmp 32) 64 70 (.agg #[(.int .i64 0), (.bool false)]) 16 rfl Try.underlying64 info70 rfl (by decide) (by omega) u4 x4_1 (⟨wrap64 ((wrap64 (x5_1 + t109)) - 60), t115⟩ : S70) [.int .i64 (wrap64 ((wrap64 (x5_1 + t109)) - 60)), .bool t115] (fun _ => True) (fun _ => False) rfl rfl ?aP (fun _ hk => hk.elim) ?aF ?aO ?aB ?aS ?aL ?_; (case aP => exact k70_mkM _ _ _ (⟨wrap64 ((wrap64 (x5_1 + t109)) - 60), t115⟩ : S70)); (case aB => exact (by repeat (first | (with_reducible first | exact HB.out | apply below_alloc | apply pw_below_drewN | apply below_drew1 | refine below_set ?_ (IsS119.ge HI104.out)) | exact HB.out))); (case aF => exact (fun _ _ => trivial)); (case aO => exact (by (with_reducible repeat (first | apply Kd.R_alloc | apply Kd.R_drewN | apply Kd.R_drew)); exact HO_4.out)); (case aS => exact (below_size (by repeat (first | (with_reducible first | exact HB.out | apply below_alloc | apply pw_below_drewN | apply below_drew1 | refine below_set ?_ (IsS119.ge HI104.out)) | exact HB.out)))); (case aL => have := LMc12.out; omega); intro v119 w16 ho hb hg hat; rw [← Ny118.out] at ho; have n0_ := Aside0.mk (IsS119.grown (by repeat (first | (with_reducible first | exact HI104.out | apply IsS119.alloc | apply IsS119.drewN | apply IsS119.drew | apply IsS119.set_1 | apply IsS119.set_2) | exact HI104.out)) hg (IsS119.own_ne HI104.out HO_4.out (by decide))); have n1_ := Aside0.mk (hb); have n2_ := Aside0.mk (ho); clear HI104; clear HB; clear HO_4; have HI104 := n0_; have HB := n1_; have HO120 := n2_; clear n0_ n1_ n2_; clear ho hb hg hat))
            go_roundg k1
            case measure => have := HK1.out; omega
            case rel => exact ⟨(y118), (wrap64 ((wrap64 (x5_1 + t109)) - 60)), (wrap64 (x6_1 - 1)), (t116), (t117), (by first | rfl | (simp; done) | (simp [*]; done)), (by first | rfl | (simp; done) | (simp [*]; done)), H', ⟨by have := HK1.out; omega⟩, ⟨by (with_reducible repeat (first | apply Kd.R_alloc | apply Kd.R_drewN | apply Kd.R_drew)); exact HO120.out⟩, ⟨by repeat (first | (with_reducible first | exact HI104.out | apply IsS119.alloc | apply IsS119.drewN | apply IsS119.drew | apply IsS119.set_1 | apply IsS119.set_2) | exact HI104.out)⟩, ⟨by repeat (first | (with_reducible first | exact HB.out | apply below_alloc | apply pw_below_drewN | apply below_drew1 | refine below_set ?_ (IsS119.ge HI104.out)) | exact HB.out)⟩⟩
          · rw [if_neg c12] at H
            exact absurd H (by simp)
        · replace c10 := Bool.eq_false_iff.mpr c10
          subst c10
          have H1 : ((spec_l1Cur_one.f t101 t113 t114 6).bind fun bt121 => (if x4_1.length < 8796093022208 then (spec_DrawRunTries.l0 k1 (x4_1 ++ [(⟨wrap64 (x5_1 + t109), bt121.1⟩ : S70)]) (wrap64 (x5_1 + t109)) (wrap64 (x6_1 - 1)) t101 bt121.2.1 bt121.2.2) else (none))) = some r := by rw [if_neg (show ¬ (false = true) by decide)] at H; exact H
          clear H
          have H := H1
          clear H1
          replace H := Option.bind_eq_some_iff.mp H
          obtain ⟨⟨t121, t122, t123⟩, A170, H⟩ := H
          replace H : (if x4_1.length < 8796093022208 then (spec_DrawRunTries.l0 k1 (x4_1 ++ [(⟨wrap64 (x5_1 + t109), t121⟩ : S70)]) (wrap64 (x5_1 + t109)) (wrap64 (x6_1 - 1)) t101 t122 t123) else (none)) = some r := H
          have A17 := Aside0.mk A170
          clear A170
          by_cases c18 : x4_1.length < 8796093022208
          · rw [if_pos c18] at H
            have LMc18 := Aside0.mk c18
            clear c18
            obtain ⟨y124, hy124⟩ : ∃ y_ : List (S70), y_ = (x4_1 ++ [(⟨wrap64 (x5_1 + t109), t121⟩ : S70)]) := ⟨_, rfl⟩
            replace H : (spec_DrawRunTries.l0 k1 y124 (wrap64 (x5_1 + t109)) (wrap64 (x6_1 - 1)) t101 t122 t123) = some r := by first | (rw [hy124]; with_reducible exact H) | (have H2_ := (Option.bind_some _ _).symm.trans H; rw [hy124]; with_reducible exact H2_) | (have H2_ := (Option.bind_some _ _).symm.trans H; with_reducible exact H2_) | with_reducible exact H | (rw [hy124]; exact H) | exact H
            have Ny124 := Aside0.mk hy124
            clear hy124
            have H' := Aside0.mk H
            clear H
            go_wp2_with (first | ((with_reducible refine gate_callee (f := 88) rfl ?_); refine goesL_ (some 21) rfl rfl Try.func88 (by kernel_rfl) rfl #[.pointer (some ⟨g104, 0, none⟩), .int .i64 40] rfl (by (try simp only [List.map_toArray, List.map_cons, List.map_nil]); first | done | rfl | (simp only [List.length_drop, List.length_take]; rfl)) ?_; (with_reducible refine (spec_l1Cur_pick.calls g104 t101 x105001_1 x105002_1 40 t109 t110 t111 w _ ?side1 ?side2 A8.out).mono ?_); (case side1 => repeat (first | (with_reducible first | exact HI104.out | apply IsS119.alloc | apply IsS119.drewN | apply IsS119.drew | apply IsS119.set_1 | apply IsS119.set_2) | exact HI104.out)); (case side2 => repeat (first | (with_reducible first | exact HB.out | apply below_alloc | apply pw_below_drewN | apply below_drew1 | refine below_set ?_ (IsS119.ge HI104.out)) | exact HB.out)); rintro e w19 ⟨rfl, hi, hb, hk⟩; refine ⟨_, rfl, ?_⟩; have n0_ := Aside0.mk (Kd.R_mono (Kd.R_keep (IsS119.apart (show IsS119 w _ g104 t101 x105001_1 x105002_1 from by repeat (first | (with_reducible first | exact HI104.out | apply IsS119.alloc | apply IsS119.drewN | apply IsS119.drew | apply IsS119.set_1 | apply IsS119.set_2) | exact HI104.out)) (by (with_reducible repeat (first | apply Kd.R_alloc | apply Kd.R_drewN | apply Kd.R_drew)); exact HO_4.out) (by decide)) hk (fun _ h => h.2)) (fun _ h => h.1)); have n1_ := Aside0.mk (hb); have n2_ := Aside0.mk (hi); clear HO_4; clear HB; clear HI104; have HO_4 := n0_; have HB := n1_; have HI104 := n2_; clear n0_ n1_ n2_; (try clear hb); (try clear hb2); (try clear hk); (try clear hi)) | ((with_reducible refine gate_callee (f := 90) rfl ?_); refine goesL_ (some 24) rfl rfl Try.func90 (by kernel_rfl) rfl #[.pointer (some ⟨g104, 0, none⟩), .int .i64 20] rfl (by (try simp only [List.map_toArray, List.map_cons, List.map_nil]); first | done | rfl | (simp only [List.length_drop, List.length_take]; rfl)) ?_; (with_reducible refine (spec_l1Cur_one.calls g104 t101 t110 t111 20 false t113 t114 w _ ?side1 ?side2 A9.out).mono ?_); (case side1 => repeat (first | (with_reducible first | exact HI104.out | apply IsS119.alloc | apply IsS119.drewN | apply IsS119.drew | apply IsS119.set_1 | apply IsS119.set_2) | exact HI104.out)); (case side2 => repeat (first | (with_reducible first | exact HB.out | apply below_alloc | apply pw_below_drewN | apply below_drew1 | refine below_set ?_ (IsS119.ge HI104.out)) | exact HB.out)); rintro e w20 ⟨rfl, hi, hb, hk⟩; refine ⟨_, rfl, ?_⟩; have n0_ := Aside0.mk (Kd.R_mono (Kd.R_keep (IsS119.apart (show IsS119 w _ g104 t101 t110 t111 from by repeat (first | (with_reducible first | exact HI104.out | apply IsS119.alloc | apply IsS119.drewN | apply IsS119.drew | apply IsS119.set_1 | apply IsS119.set_2) | exact HI104.out)) (by (with_reducible repeat (first | apply Kd.R_alloc | apply Kd.R_drewN | apply Kd.R_drew)); exact HO_4.out) (by decide)) hk (fun _ h => h.2)) (fun _ h => h.1)); have n1_ := Aside0.mk (hb); have n2_ := Aside0.mk (hi); clear HO_4; clear HB; clear HI104; have HO_4 := n0_; have HB := n1_; have HI104 := n2_; clear n0_ n1_ n2_; (try clear hb); (try clear hb2); (try clear hk); (try clear hi)) | ((with_reducible refine gate_callee (f := 90) rfl ?_); refine goesL_ (some 30) rfl rfl Try.func90 (by kernel_rfl) rfl #[.pointer (some ⟨g104, 0, none⟩), .int .i64 6] rfl (by (try simp only [List.map_toArray, List.map_cons, List.map_nil]); first | done | rfl | (simp only [List.length_drop, List.length_take]; rfl)) ?_; (with_reducible refine (spec_l1Cur_one.calls g104 t101 t113 t114 6 t121 t122 t123 w _ ?side1 ?side2 A17.out).mono ?_); (case side1 => repeat (first | (with_reducible first | exact HI104.out | apply IsS119.alloc | apply IsS119.drewN | apply IsS119.drew | apply IsS119.set_1 | apply IsS119.set_2) | exact HI104.out)); (case side2 => repeat (first | (with_reducible first | exact HB.out | apply below_alloc | apply pw_below_drewN | apply below_drew1 | refine below_set ?_ (IsS119.ge HI104.out)) | exact HB.out)); rintro e w21 ⟨rfl, hi, hb, hk⟩; refine ⟨_, rfl, ?_⟩; have n0_ := Aside0.mk (Kd.R_mono (Kd.R_keep (IsS119.apart (show IsS119 w _ g104 t101 t113 t114 from by repeat (first | (with_reducible first | exact HI104.out | apply IsS119.alloc | apply IsS119.drewN | apply IsS119.drew | apply IsS119.set_1 | apply IsS119.set_2) | exact HI104.out)) (by (with_reducible repeat (first | apply Kd.R_alloc | apply Kd.R_drewN | apply Kd.R_drew)); exact HO_4.out) (by decide)) hk (fun _ h => h.2)) (fun _ h => h.1)); have n1_ := Aside0.mk (hb); have n2_ := Aside0.mk (hi); clear HO_4; clear HB; clear HI104; have HO_4 := n0_; have HB := n1_; have HI104 := n2_; clear n0_ n1_ n2_; (try clear hb); (try clear hb2); (try clear hk); (try clear hi)) | ((with_reducible refine gate_builtin (b := .append) (xs := #[.tmp 27, .tmp 32]) rfl ?_); at_builtin; refine Kd.R_append k70 (w0 := w) w.heap.size rfl (.tmp 27) (.tmp 32) 64 70 (.agg #[(.int .i64 0), (.bool false)]) 16 rfl Try.underlying64 info70 rfl (by decide) (by omega) u4 x4_1 (⟨wrap64 (x5_1 + t109), t121⟩ : S70) [.int .i64 (wrap64 (x5_1 + t109)), .bool t121] (fun _ => True) (fun _ => False) rfl rfl ?aP (fun _ hk => hk.elim) ?aF ?aO ?aB ?aS ?aL ?_; (case aP => exact k70_mkM _ _ _ (⟨wrap64 (x5_1 + t109), t121⟩ : S70)); (case aB => exact (by repeat (first | (with_reducible first | exact HB.out | apply below_alloc | apply pw_below_drewN | apply below_drew1 | refine below_set ?_ (IsS119.ge HI104.out)) | exact HB.out))); (case aF => exact (fun _ _ => trivial)); (case aO => exact (by (with_reducible repeat (first | apply Kd.R_alloc | apply Kd.R_drewN | apply Kd.R_drew)); exact HO_4.out)); (case aS => exact (below_size (by repeat (first | (with_reducible first | exact HB.out | apply below_alloc | apply pw_below_drewN | apply below_drew1 | refine below_set ?_ (IsS119.ge HI104.out)) | exact HB.out)))); (case aL => have := LMc18.out; omega); intro v125 w22 ho hb hg hat; rw [← Ny124.out] at ho; have n0_ := Aside0.mk (IsS119.grown (by repeat (first | (with_reducible first | exact HI104.out | apply IsS119.alloc | apply IsS119.drewN | apply IsS119.drew | apply IsS119.set_1 | apply IsS119.set_2) | exact HI104.out)) hg (IsS119.own_ne HI104.out HO_4.out (by decide))); have n1_ := Aside0.mk (hb); have n2_ := Aside0.mk (ho); clear HI104; clear HB; clear HO_4; have HI104 := n0_; have HB := n1_; have HO126 := n2_; clear n0_ n1_ n2_; clear ho hb hg hat))
            go_roundg k1
            case measure => have := HK1.out; omega
            case rel => exact ⟨(y124), (wrap64 (x5_1 + t109)), (wrap64 (x6_1 - 1)), (t122), (t123), (by first | rfl | (simp; done) | (simp [*]; done)), (by first | rfl | (simp; done) | (simp [*]; done)), H', ⟨by have := HK1.out; omega⟩, ⟨by (with_reducible repeat (first | apply Kd.R_alloc | apply Kd.R_drewN | apply Kd.R_drew)); exact HO126.out⟩, ⟨by repeat (first | (with_reducible first | exact HI104.out | apply IsS119.alloc | apply IsS119.drewN | apply IsS119.drew | apply IsS119.set_1 | apply IsS119.set_2) | exact HI104.out)⟩, ⟨by repeat (first | (with_reducible first | exact HB.out | apply below_alloc | apply pw_below_drewN | apply below_drew1 | refine below_set ?_ (IsS119.ge HI104.out)) | exact HB.out)⟩⟩
          · rw [if_neg c18] at H
            exact absurd H (by simp)
      · rw [if_neg c7] at H
        have c7b0 : decide (0 < x6_1) = false := decide_eq_false c7
        clear c7
        obtain rfl := Option.some.inj H
        go_wp2
        go_ret
        exact ⟨_, by first | rfl | (simp [errW_none, errW_some] <;> rfl) | (simp [*, errW_none, errW_some] <;> rfl), by (with_reducible repeat (first | apply Kd.R_alloc | apply Kd.R_drewN | apply Kd.R_drew)); exact HO_4.out, by repeat (first | (with_reducible first | exact HB.out | apply below_alloc | apply pw_below_drewN | apply below_drew1 | refine below_set ?_ (IsS119.ge HI104.out)) | exact HB.out)⟩

end Go.Proofs.Ytgolcojhnklfdaa.Pr
