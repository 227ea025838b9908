-- Written by mkprint.py (a program of this repo, which drives the print.py of the kit): Lean checks it.
import Derived.Test.YtgolcojhnklfdaaDoorPr0x
import Derived.Test.YtgolcojhnklfdaaDoorHbytes
import Derived.Test.YtgolcojhnklfdaaDoorPr25
import Derived.Test.YtgolcojhnklfdaaDoorPr29
import Derived.Test.YtgolcojhnklfdaaDoorPr30
import Derived.Test.YtgolcojhnklfdaaDoorPr31
import Derived.Test.YtgolcojhnklfdaaDoorPrcur
namespace Go.Proofs.YtgolcojhnklfdaaDoor.Pr
open Go.RowKit Go.Proofs.YtgolcojhnklfdaaDoorW.PrintWords Go.Proofs.YtgolcojhnklfdaaDoorW.PrintLast Go.Proofs.YtgolcojhnklfdaaDoorW.PrintMore
attribute [local go_sem] max2_int min2_int max_two min_two max_three min_three max_four min_four   -- for this text's walks alone
set_option linter.unusedVariables false
set_option linter.unusedSimpArgs false

/-! ### spec_DrawCheckTimed: function 17 -/
mutual
def spec_DrawCheckTimed.j0 : Nat → List Int → Int → List Int → Int → Int → Option (List Int × Int × Int × Int × ByteArray)
  | 0, _, _, _, _, _ => none
  | k + 1, x8, x9, x105000, x105001, x105002 => (spec_l1Cur_pick.f x105000 x105001 x105002 5).bind fun bt119 => ((spec_l1Cur_pick.f x105000 bt119.2.1 bt119.2.2 5).bind fun bt122 => (if (wrap64 ((wrap64 ((wrap64 (Int.tdiv x9 30)) - 2)) + bt119.1)) ≥ 0 then ((spec_l16Code.f k x8 (wrap64 ((wrap64 ((wrap64 (Int.tdiv x9 30)) - 2)) + bt119.1)) (wrap64 (4 + bt122.1))).bind fun t125 => (spec_DrawCheckTimed.j1 k x8 x9 (wrap64 ((wrap64 ((wrap64 (Int.tdiv x9 30)) - 2)) + bt119.1)) (wrap64 (4 + bt122.1)) t125 x105000 bt122.2.1 bt122.2.2)) else (spec_DrawCheckTimed.j1 k x8 x9 (wrap64 ((wrap64 ((wrap64 (Int.tdiv x9 30)) - 2)) + bt119.1)) (wrap64 (4 + bt122.1)) (⟨#[]⟩ : ByteArray) x105000 bt122.2.1 bt122.2.2)))
def spec_DrawCheckTimed.j1 : Nat → List Int → Int → Int → Int → ByteArray → List Int → Int → Int → Option (List Int × Int × Int × Int × ByteArray)
  | 0, _, _, _, _, _, _, _, _ => none
  | k + 1, x8, x9, x10, x11, x12, x105000, x105001, x105002 => (spec_l1Cur_pick.f x105000 x105001 x105002 4).bind fun bt126 => ((spec_l1Cur_one.f x105000 bt126.2.1 bt126.2.2 20).bind fun bt129 => (if bt129.1 = true then ((some (([(-1), 100000000000, 100000000001] : List Int) : List Int)).bind fun y132 => ((spec_l1Cur_pick.f x105000 bt129.2.1 bt129.2.2 3).bind fun bt135 => (if 0 ≤ bt135.1 then (if bt135.1 < (y132.length : Int) then (some (x8, rd y132 bt135.1, wrap64 ((wrap64 (x10 - 2)) + bt126.1), x11, x12)) else (none)) else (none)))) else (some (x8, x9, wrap64 ((wrap64 (x10 - 2)) + bt126.1), x11, x12))))
end
def spec_DrawCheckTimed.f (k : Nat) (l0 : List Int) : Option (List Int × Int × Int × Int × ByteArray) := (newCur.f l0 0 0).bind fun bt101 => ((spec_l1Cur_codeSecret.f k bt101.1 bt101.2.1 bt101.2.2).bind fun bt105 => ((spec_l1Cur_pick.f bt101.1 bt105.2.1 bt105.2.2 4000).bind fun bt110 => ((spec_l1Cur_one.f bt101.1 bt110.2.1 bt110.2.2 12).bind fun bt113 => (if bt113.1 = true then ((spec_l1Cur_pick.f bt101.1 bt113.2.1 bt113.2.2 70).bind fun bt116 => (spec_DrawCheckTimed.j0 k bt105.1 bt116.1 bt101.1 bt116.2.1 bt116.2.2)) else (spec_DrawCheckTimed.j0 k bt105.1 bt110.1 bt101.1 bt113.2.1 bt113.2.2)))))
theorem spec_DrawCheckTimed.mono_l : ∀ k, (∀ y0 y1 y2 y3 y4, LeO (spec_DrawCheckTimed.j0 k y0 y1 y2 y3 y4) (spec_DrawCheckTimed.j0 (k + 1) y0 y1 y2 y3 y4)) ∧ (∀ y0 y1 y2 y3 y4 y5 y6 y7, LeO (spec_DrawCheckTimed.j1 k y0 y1 y2 y3 y4 y5 y6 y7) (spec_DrawCheckTimed.j1 (k + 1) y0 y1 y2 y3 y4 y5 y6 y7))
  | 0 => ⟨fun _ _ _ _ _ r h => by simp [spec_DrawCheckTimed.j0] at h, fun _ _ _ _ _ _ _ _ r h => by simp [spec_DrawCheckTimed.j1] at h⟩
  | k + 1 => by
    obtain ⟨ih0, ih1⟩ := spec_DrawCheckTimed.mono_l k
    refine ⟨?_, ?_⟩
    · intro y0 y1 y2 y3 y4
      unfold spec_DrawCheckTimed.j0
      repeat' first
      | (with_reducible exact ih0 _ _ _ _ _)
      | (with_reducible exact ih1 _ _ _ _ _ _ _ _)
      | (with_reducible exact spec_l16Code.mono _ _ _ _)
      | (with_reducible exact spec_l1Cur_codeSecret.mono _ _ _ _)
      | (with_reducible exact LeO.refl _)
      | (with_reducible exact LeO.none _)
      | (with_reducible refine LeO.ite ?_ ?_)
      | (with_reducible refine LeO.bind ?_ (fun _ => ?_))
      | exact ih0 _ _ _ _ _
      | exact ih1 _ _ _ _ _ _ _ _
      | exact spec_l16Code.mono _ _ _ _
      | exact spec_l1Cur_codeSecret.mono _ _ _ _
      | exact LeO.none _
      | refine LeO.ite ?_ ?_
      | refine LeO.bind ?_ (fun _ => ?_)
    · intro y0 y1 y2 y3 y4 y5 y6 y7
      unfold spec_DrawCheckTimed.j1
      repeat' first
      | (with_reducible exact ih0 _ _ _ _ _)
      | (with_reducible exact ih1 _ _ _ _ _ _ _ _)
      | (with_reducible exact spec_l16Code.mono _ _ _ _)
      | (with_reducible exact spec_l1Cur_codeSecret.mono _ _ _ _)
      | (with_reducible exact LeO.refl _)
      | (with_reducible exact LeO.none _)
      | (with_reducible refine LeO.ite ?_ ?_)
      | (with_reducible refine LeO.bind ?_ (fun _ => ?_))
      | exact ih0 _ _ _ _ _
      | exact ih1 _ _ _ _ _ _ _ _
      | exact spec_l16Code.mono _ _ _ _
      | exact spec_l1Cur_codeSecret.mono _ _ _ _
      | exact LeO.none _
      | refine LeO.ite ?_ ?_
      | refine LeO.bind ?_ (fun _ => ?_)
theorem spec_DrawCheckTimed.mono : ∀ a0 k, LeO (spec_DrawCheckTimed.f k a0) (spec_DrawCheckTimed.f (k + 1) a0) := by
  intro a0 k
  obtain ⟨ih0, ih1⟩ := spec_DrawCheckTimed.mono_l k
  unfold spec_DrawCheckTimed.f
  repeat' first
      | (with_reducible exact ih0 _ _ _ _ _)
      | (with_reducible exact ih1 _ _ _ _ _ _ _ _)
      | (with_reducible exact spec_l16Code.mono _ _ _ _)
      | (with_reducible exact spec_l1Cur_codeSecret.mono _ _ _ _)
      | (with_reducible exact LeO.refl _)
      | (with_reducible exact LeO.none _)
      | (with_reducible refine LeO.ite ?_ ?_)
      | (with_reducible refine LeO.bind ?_ (fun _ => ?_))
      | exact ih0 _ _ _ _ _
      | exact ih1 _ _ _ _ _ _ _ _
      | exact spec_l16Code.mono _ _ _ _
      | exact spec_l1Cur_codeSecret.mono _ _ _ _
      | exact LeO.none _
      | refine LeO.ite ?_ ?_
      | refine LeO.bind ?_ (fun _ => ?_)
set_option maxHeartbeats 8000000 in
set_option maxRecDepth 100000 in
theorem spec_DrawCheckTimed.calls (k : Nat) (A0 : Option Addr) (c0 : Nat) (l0 : List Int) (r1 : List Int) (r2 : Int) (r3 : Int) (r4 : Int) (r5 : ByteArray) (w : World) (hr0 : Kd.C (Kd.int .u8) w A0 l0.length l0) (hc0 : l0.length ≤ c0) (h : spec_DrawCheckTimed.f k l0 = some (r1, r2, r3, r4, r5)) :
    Calls Tryd.prog 17 #[.slice A0 l0.length c0] w fun e w' => ∃ v0_ : Value, e = .returned (.tuple #[v0_, .int .i64 r2, .int .i64 r3, .int .i64 r4, .string r5]) ∧ Kd.R (Kd.int .u8) 5 w' w.heap.size (fun _ => True) v0_ r1 ∧ Below w.heap.size w w' := by
  have hu46 := Tryd.underlying46
  have HR0 := Aside0.mk hr0
  have HC0 := Aside0.mk hc0
  clear hr0 hc0
  have HB := Aside0.mk (Below.refl w.heap.size w)
  have H : ((newCur.f l0 0 0).bind fun bt101 => ((spec_l1Cur_codeSecret.f k bt101.1 bt101.2.1 bt101.2.2).bind fun bt105 => ((spec_l1Cur_pick.f bt101.1 bt105.2.1 bt105.2.2 4000).bind fun bt110 => ((spec_l1Cur_one.f bt101.1 bt110.2.1 bt110.2.2 12).bind fun bt113 => (if bt113.1 = true then ((spec_l1Cur_pick.f bt101.1 bt113.2.1 bt113.2.2 70).bind fun bt116 => (spec_DrawCheckTimed.j0 k bt105.1 bt116.1 bt101.1 bt116.2.1 bt116.2.2)) else (spec_DrawCheckTimed.j0 k bt105.1 bt110.1 bt101.1 bt113.2.1 bt113.2.2)))))) = some (r1, r2, r3, r4, r5) := h
  clear h
  replace H := Option.bind_eq_some_iff.mp H
  obtain ⟨⟨t101, t102, t103⟩, A20, H⟩ := H
  replace H : ((spec_l1Cur_codeSecret.f k t101 t102 t103).bind fun bt105 => ((spec_l1Cur_pick.f t101 bt105.2.1 bt105.2.2 4000).bind fun bt110 => ((spec_l1Cur_one.f t101 bt110.2.1 bt110.2.2 12).bind fun bt113 => (if bt113.1 = true then ((spec_l1Cur_pick.f t101 bt113.2.1 bt113.2.2 70).bind fun bt116 => (spec_DrawCheckTimed.j0 k bt105.1 bt116.1 t101 bt116.2.1 bt116.2.2)) else (spec_DrawCheckTimed.j0 k bt105.1 bt110.1 t101 bt113.2.1 bt113.2.2))))) = some (r1, r2, r3, r4, r5) := H
  have A2 := Aside0.mk A20
  clear A20
  replace H := Option.bind_eq_some_iff.mp H
  obtain ⟨⟨t105, t108, t109⟩, A30, H⟩ := H
  replace H : ((spec_l1Cur_pick.f t101 t108 t109 4000).bind fun bt110 => ((spec_l1Cur_one.f t101 bt110.2.1 bt110.2.2 12).bind fun bt113 => (if bt113.1 = true then ((spec_l1Cur_pick.f t101 bt113.2.1 bt113.2.2 70).bind fun bt116 => (spec_DrawCheckTimed.j0 k t105 bt116.1 t101 bt116.2.1 bt116.2.2)) else (spec_DrawCheckTimed.j0 k t105 bt110.1 t101 bt113.2.1 bt113.2.2)))) = some (r1, r2, r3, r4, r5) := H
  have A3 := Aside0.mk A30
  clear A30
  replace H := Option.bind_eq_some_iff.mp H
  obtain ⟨⟨t110, t111, t112⟩, A40, H⟩ := H
  replace H : ((spec_l1Cur_one.f t101 t111 t112 12).bind fun bt113 => (if bt113.1 = true then ((spec_l1Cur_pick.f t101 bt113.2.1 bt113.2.2 70).bind fun bt116 => (spec_DrawCheckTimed.j0 k t105 bt116.1 t101 bt116.2.1 bt116.2.2)) else (spec_DrawCheckTimed.j0 k t105 t110 t101 bt113.2.1 bt113.2.2))) = some (r1, r2, r3, r4, r5) := H
  have A4 := Aside0.mk A40
  clear A40
  replace H := Option.bind_eq_some_iff.mp H
  obtain ⟨⟨t113, t114, t115⟩, A50, H⟩ := H
  replace H : (if t113 = true then ((spec_l1Cur_pick.f t101 t114 t115 70).bind fun bt116 => (spec_DrawCheckTimed.j0 k t105 bt116.1 t101 bt116.2.1 bt116.2.2)) else (spec_DrawCheckTimed.j0 k t105 t110 t101 t114 t115)) = some (r1, r2, r3, r4, r5) := H
  have A5 := Aside0.mk A50
  clear A50
  have HC6 := Aside0.mk H
  clear H
  go_enter Tryd.func17, Tryd.ntmps17
  go_upto_if 22 with (first | ((with_reducible refine gate_box (t := 46) rfl ?_); refine boxGoesL_ (some 16) rfl rfl (t := 46) (cs := #[.slice A0 l0.length c0, .int .i64 0, .int .u64 0]) (by first | (go_simp; done) | (go_simp; rfl)) ?_; (with_reducible refine (newCur.calls _ _ l0 0 0 t101 t102 t103 w _ ?side1 ?side2 ?side3 A2.out).mono ?_); (case side1 => repeat (first | (with_reducible first | exact HB.out | apply below_alloc | apply pw_below_drewN | apply below_drew1) | exact HB.out)); (case side2 => exact HR0.out); (case side3 => exact HC0.out); rintro e w7 ⟨g104, rfl, hi, hb, hb2⟩; refine ⟨_, rfl, ?_⟩; have n0_ := Aside0.mk (hb); have n1_ := Aside0.mk (hi); clear HB; have HB := n0_; have HI104 := n1_; clear n0_ n1_; (try clear hb); (try clear hb2); (try clear hk); (try clear hi)) | ((with_reducible refine gate_callee (f := 29) rfl ?_); refine goesL_ (some 18) rfl rfl Tryd.func29 (by kernel_rfl) rfl #[.pointer (some ⟨g104, 0, none⟩)] rfl (by (try simp only [List.map_toArray, List.map_cons, List.map_nil]); first | done | rfl | (simp only [List.length_drop, List.length_take]; rfl)) ?_; (with_reducible refine (spec_l1Cur_codeSecret.calls k g104 t101 t102 t103 t105 t108 t109 w _ ?side1 ?side2 A3.out).mono ?_); (case side1 => repeat (first | (with_reducible first | exact HI104.out | apply IsS46.alloc | apply IsS46.drewN | apply IsS46.drew | apply IsS46.set_1 | apply IsS46.set_2) | exact HI104.out)); (case side2 => repeat (first | (with_reducible first | exact HB.out | apply below_alloc | apply pw_below_drewN | apply below_drew1 | refine below_set ?_ (IsS46.ge HI104.out)) | exact HB.out)); rintro e w8 ⟨v106, rfl, ho0, hi, hb, hk⟩; refine ⟨_, rfl, ?_⟩; have n0_ := Aside0.mk (Kd.R_lower ho0 (below_size (by repeat (first | (with_reducible first | exact HB.out | apply below_alloc | apply pw_below_drewN | apply below_drew1 | refine below_set ?_ (IsS46.ge HI104.out)) | exact HB.out)))); have n1_ := Aside0.mk (hb); have n2_ := Aside0.mk (hi); clear HB; clear HI104; have HO107 := n0_; have HB := n1_; have HI104 := n2_; clear n0_ n1_ n2_; (try clear hb); (try clear hb2); (try clear hk); (try clear hi); (try clear ho0)) | ((with_reducible refine gate_callee (f := 30) rfl ?_); refine goesL_ (some 20) rfl rfl Tryd.func30 (by kernel_rfl) rfl #[.pointer (some ⟨g104, 0, none⟩), .int .i64 4000] rfl (by (try simp only [List.map_toArray, List.map_cons, List.map_nil]); first | done | rfl | (simp only [List.length_drop, List.length_take]; rfl)) ?_; (with_reducible refine (spec_l1Cur_pick.calls g104 t101 t108 t109 4000 t110 t111 t112 w _ ?side1 ?side2 A4.out).mono ?_); (case side1 => repeat (first | (with_reducible first | exact HI104.out | apply IsS46.alloc | apply IsS46.drewN | apply IsS46.drew | apply IsS46.set_1 | apply IsS46.set_2) | exact HI104.out)); (case side2 => repeat (first | (with_reducible first | exact HB.out | apply below_alloc | apply pw_below_drewN | apply below_drew1 | refine below_set ?_ (IsS46.ge HI104.out)) | exact HB.out)); rintro e w9 ⟨rfl, hi, hb, hk⟩; refine ⟨_, rfl, ?_⟩; have n0_ := Aside0.mk (Kd.R_mono (Kd.R_keep (IsS46.apart (show IsS46 w _ g104 t101 t108 t109 from by repeat (first | (with_reducible first | exact HI104.out | apply IsS46.alloc | apply IsS46.drewN | apply IsS46.drew | apply IsS46.set_1 | apply IsS46.set_2) | exact HI104.out)) (by (with_reducible repeat (first | apply Kd.R_alloc | apply Kd.R_drewN | apply Kd.R_drew)); exact HO107.out) (by decide)) hk (fun _ h => h.2)) (fun _ h => h.1)); have n1_ := Aside0.mk (hb); have n2_ := Aside0.mk (hi); clear HO107; clear HB; clear HI104; have HO107 := n0_; have HB := n1_; have HI104 := n2_; clear n0_ n1_ n2_; (try clear hb); (try clear hb2); (try clear hk); (try clear hi)) | ((with_reducible refine gate_callee (f := 31) rfl ?_); refine goesL_ (some 22) rfl rfl Tryd.func31 (by kernel_rfl) rfl #[.pointer (some ⟨g104, 0, none⟩), .int .i64 12] rfl (by (try simp only [List.map_toArray, List.map_cons, List.map_nil]); first | done | rfl | (simp only [List.length_drop, List.length_take]; rfl)) ?_; (with_reducible refine (spec_l1Cur_one.calls g104 t101 t111 t112 12 t113 t114 t115 w _ ?side1 ?side2 A5.out).mono ?_); (case side1 => repeat (first | (with_reducible first | exact HI104.out | apply IsS46.alloc | apply IsS46.drewN | apply IsS46.drew | apply IsS46.set_1 | apply IsS46.set_2) | exact HI104.out)); (case side2 => repeat (first | (with_reducible first | exact HB.out | apply below_alloc | apply pw_below_drewN | apply below_drew1 | refine below_set ?_ (IsS46.ge HI104.out)) | exact HB.out)); rintro e w10 ⟨rfl, hi, hb, hk⟩; refine ⟨_, rfl, ?_⟩; have n0_ := Aside0.mk (Kd.R_mono (Kd.R_keep (IsS46.apart (show IsS46 w _ g104 t101 t111 t112 from by repeat (first | (with_reducible first | exact HI104.out | apply IsS46.alloc | apply IsS46.drewN | apply IsS46.drew | apply IsS46.set_1 | apply IsS46.set_2) | exact HI104.out)) (by (with_reducible repeat (first | apply Kd.R_alloc | apply Kd.R_drewN | apply Kd.R_drew)); exact HO107.out) (by decide)) hk (fun _ h => h.2)) (fun _ h => h.1)); have n1_ := Aside0.mk (hb); have n2_ := Aside0.mk (hi); clear HO107; clear HB; clear HI104; have HO107 := n0_; have HB := n1_; have HI104 := n2_; clear n0_ n1_ n2_; (try clear hb); (try clear hb2); (try clear hk); (try clear hi)))
  (try simp only [Act.put, List.setIfInBounds_toArray, List.set_cons_zero, List.set_cons_succ])
  go_cut [9] (fun v9 wc => ∃ (kq : Nat) (x9_5 : Int) (x105001_5 : Int) (x105002_5 : Int), v9 = .int .i64 x9_5 ∧ Aside0 (spec_DrawCheckTimed.j0 kq t105 x9_5 t101 x105001_5 x105002_5 = some (r1, r2, r3, r4, r5)) ∧ Aside0 (kq ≤ k) ∧ Aside0 (Kd.R (Kd.int .u8) 5 wc w.heap.size (fun _ => True) v106 t105) ∧ Aside0 (IsS46 w wc g104 t101 x105001_5 x105002_5) ∧ Aside0 (Below w.heap.size w wc))
  case first =>
    have H := HC6.out
    clear HC6
    by_cases c11 : t113 = true
    · subst c11
      have H1 : ((spec_l1Cur_pick.f t101 t114 t115 70).bind fun bt116 => (spec_DrawCheckTimed.j0 k t105 bt116.1 t101 bt116.2.1 bt116.2.2)) = some (r1, r2, r3, r4, r5) := by rw [if_pos rfl] at H; exact H
      clear H
      have H := H1
      clear H1
      replace H := Option.bind_eq_some_iff.mp H
      obtain ⟨⟨t116, t117, t118⟩, A120, H⟩ := H
      replace H : (spec_DrawCheckTimed.j0 k t105 t116 t101 t117 t118) = some (r1, r2, r3, r4, r5) := H
      have A12 := Aside0.mk A120
      clear A120
      have H' := Aside0.mk H
      clear H
      go_wp2_with (first | ((with_reducible refine gate_callee (f := 30) rfl ?_); refine goesL_ (some 24) rfl rfl Tryd.func30 (by kernel_rfl) rfl #[.pointer (some ⟨g104, 0, none⟩), .int .i64 70] rfl (by (try simp only [List.map_toArray, List.map_cons, List.map_nil]); first | done | rfl | (simp only [List.length_drop, List.length_take]; rfl)) ?_; (with_reducible refine (spec_l1Cur_pick.calls g104 t101 t114 t115 70 t116 t117 t118 w _ ?side1 ?side2 A12.out).mono ?_); (case side1 => repeat (first | (with_reducible first | exact HI104.out | apply IsS46.alloc | apply IsS46.drewN | apply IsS46.drew | apply IsS46.set_1 | apply IsS46.set_2) | exact HI104.out)); (case side2 => repeat (first | (with_reducible first | exact HB.out | apply below_alloc | apply pw_below_drewN | apply below_drew1 | refine below_set ?_ (IsS46.ge HI104.out)) | exact HB.out)); rintro e w13 ⟨rfl, hi, hb, hk⟩; refine ⟨_, rfl, ?_⟩; have n0_ := Aside0.mk (Kd.R_mono (Kd.R_keep (IsS46.apart (show IsS46 w _ g104 t101 t114 t115 from by repeat (first | (with_reducible first | exact HI104.out | apply IsS46.alloc | apply IsS46.drewN | apply IsS46.drew | apply IsS46.set_1 | apply IsS46.set_2) | exact HI104.out)) (by (with_reducible repeat (first | apply Kd.R_alloc | apply Kd.R_drewN | apply Kd.R_drew)); exact HO107.out) (by decide)) hk (fun _ h => h.2)) (fun _ h => h.1)); have n1_ := Aside0.mk (hb); have n2_ := Aside0.mk (hi); clear HO107; clear HB; clear HI104; have HO107 := n0_; have HB := n1_; have HI104 := n2_; clear n0_ n1_ n2_; (try clear hb); (try clear hb2); (try clear hk); (try clear hi)))
      go_meet
      case rel => exact ⟨_, (t116), (t117), (t118), (by first | rfl | (simp; done) | (simp [*]; done)), H', ⟨by first | omega | exact Nat.le_refl _⟩, ⟨by (with_reducible repeat (first | apply Kd.R_alloc | apply Kd.R_drewN | apply Kd.R_drew)); exact HO107.out⟩, ⟨by repeat (first | (with_reducible first | exact HI104.out | apply IsS46.alloc | apply IsS46.drewN | apply IsS46.drew | apply IsS46.set_1 | apply IsS46.set_2) | exact HI104.out)⟩, ⟨by repeat (first | (with_reducible first | exact HB.out | apply below_alloc | apply pw_below_drewN | apply below_drew1 | refine below_set ?_ (IsS46.ge HI104.out)) | exact HB.out)⟩⟩
    · replace c11 := Bool.eq_false_iff.mpr c11
      subst c11
      have H1 : (spec_DrawCheckTimed.j0 k t105 t110 t101 t114 t115) = some (r1, r2, r3, r4, r5) := by rw [if_neg (show ¬ (false = true) by decide)] at H; exact H
      clear H
      have H := H1
      clear H1
      have H' := Aside0.mk H
      clear H
      go_wp2
      go_meet
      case rel => exact ⟨_, (t110), (t114), (t115), (by first | rfl | (simp; done) | (simp [*]; done)), H', ⟨by first | omega | exact Nat.le_refl _⟩, ⟨by (with_reducible repeat (first | apply Kd.R_alloc | apply Kd.R_drewN | apply Kd.R_drew)); exact HO107.out⟩, ⟨by repeat (first | (with_reducible first | exact HI104.out | apply IsS46.alloc | apply IsS46.drewN | apply IsS46.drew | apply IsS46.set_1 | apply IsS46.set_2) | exact HI104.out)⟩, ⟨by repeat (first | (with_reducible first | exact HB.out | apply below_alloc | apply pw_below_drewN | apply below_drew1 | refine below_set ?_ (IsS46.ge HI104.out)) | exact HB.out)⟩⟩
  case rest =>
    clear HC6
    try clear c1
    try clear c2
    try clear p2
    try clear c3
    try clear c9
    try clear c11
    obtain ⟨kq, x9_5, x105001_5, x105002_5, rfl, HA, HJ5, HO_8, HI104, HB⟩ := hcut
    cases kq with
    | zero => exact absurd HA.out (by simp [spec_DrawCheckTimed.j0])
    | succ kj5 =>
      have H := HA.out
      clear HA
      simp only [spec_DrawCheckTimed.j0] at H
      replace H := Option.bind_eq_some_iff.mp H
      obtain ⟨⟨t119, t120, t121⟩, A140, H⟩ := H
      replace H : ((spec_l1Cur_pick.f t101 t120 t121 5).bind fun bt122 => (if (wrap64 ((wrap64 ((wrap64 (Int.tdiv x9_5 30)) - 2)) + t119)) ≥ 0 then ((spec_l16Code.f kj5 t105 (wrap64 ((wrap64 ((wrap64 (Int.tdiv x9_5 30)) - 2)) + t119)) (wrap64 (4 + bt122.1))).bind fun t125 => (spec_DrawCheckTimed.j1 kj5 t105 x9_5 (wrap64 ((wrap64 ((wrap64 (Int.tdiv x9_5 30)) - 2)) + t119)) (wrap64 (4 + bt122.1)) t125 t101 bt122.2.1 bt122.2.2)) else (spec_DrawCheckTimed.j1 kj5 t105 x9_5 (wrap64 ((wrap64 ((wrap64 (Int.tdiv x9_5 30)) - 2)) + t119)) (wrap64 (4 + bt122.1)) (⟨#[]⟩ : ByteArray) t101 bt122.2.1 bt122.2.2))) = some (r1, r2, r3, r4, r5) := H
      have A14 := Aside0.mk A140
      clear A140
      replace H := Option.bind_eq_some_iff.mp H
      obtain ⟨⟨t122, t123, t124⟩, A150, H⟩ := H
      replace H : (if (wrap64 ((wrap64 ((wrap64 (Int.tdiv x9_5 30)) - 2)) + t119)) ≥ 0 then ((spec_l16Code.f kj5 t105 (wrap64 ((wrap64 ((wrap64 (Int.tdiv x9_5 30)) - 2)) + t119)) (wrap64 (4 + t122))).bind fun t125 => (spec_DrawCheckTimed.j1 kj5 t105 x9_5 (wrap64 ((wrap64 ((wrap64 (Int.tdiv x9_5 30)) - 2)) + t119)) (wrap64 (4 + t122)) t125 t101 t123 t124)) else (spec_DrawCheckTimed.j1 kj5 t105 x9_5 (wrap64 ((wrap64 ((wrap64 (Int.tdiv x9_5 30)) - 2)) + t119)) (wrap64 (4 + t122)) (⟨#[]⟩ : ByteArray) t101 t123 t124)) = some (r1, r2, r3, r4, r5) := H
      have A15 := Aside0.mk A150
      clear A150
      have HC16 := Aside0.mk H
      clear H
      go_upto_if 35 with (first | ((with_reducible refine gate_callee (f := 30) rfl ?_); refine goesL_ (some 29) rfl rfl Tryd.func30 (by kernel_rfl) rfl #[.pointer (some ⟨g104, 0, none⟩), .int .i64 5] rfl (by (try simp only [List.map_toArray, List.map_cons, List.map_nil]); first | done | rfl | (simp only [List.length_drop, List.length_take]; rfl)) ?_; (with_reducible refine (spec_l1Cur_pick.calls g104 t101 x105001_5 x105002_5 5 t119 t120 t121 w _ ?side1 ?side2 A14.out).mono ?_); (case side1 => repeat (first | (with_reducible first | exact HI104.out | apply IsS46.alloc | apply IsS46.drewN | apply IsS46.drew | apply IsS46.set_1 | apply IsS46.set_2) | exact HI104.out)); (case side2 => repeat (first | (with_reducible first | exact HB.out | apply below_alloc | apply pw_below_drewN | apply below_drew1 | refine below_set ?_ (IsS46.ge HI104.out)) | exact HB.out)); rintro e w17 ⟨rfl, hi, hb, hk⟩; refine ⟨_, rfl, ?_⟩; have n0_ := Aside0.mk (Kd.R_mono (Kd.R_keep (IsS46.apart (show IsS46 w _ g104 t101 x105001_5 x105002_5 from by repeat (first | (with_reducible first | exact HI104.out | apply IsS46.alloc | apply IsS46.drewN | apply IsS46.drew | apply IsS46.set_1 | apply IsS46.set_2) | exact HI104.out)) (by (with_reducible repeat (first | apply Kd.R_alloc | apply Kd.R_drewN | apply Kd.R_drew)); exact HO_8.out) (by decide)) hk (fun _ h => h.2)) (fun _ h => h.1)); have n1_ := Aside0.mk (hb); have n2_ := Aside0.mk (hi); clear HO_8; clear HB; clear HI104; have HO_8 := n0_; have HB := n1_; have HI104 := n2_; clear n0_ n1_ n2_; (try clear hb); (try clear hb2); (try clear hk); (try clear hi)) | ((with_reducible refine gate_callee (f := 30) rfl ?_); refine goesL_ (some 32) rfl rfl Tryd.func30 (by kernel_rfl) rfl #[.pointer (some ⟨g104, 0, none⟩), .int .i64 5] rfl (by (try simp only [List.map_toArray, List.map_cons, List.map_nil]); first | done | rfl | (simp only [List.length_drop, List.length_take]; rfl)) ?_; (with_reducible refine (spec_l1Cur_pick.calls g104 t101 t120 t121 5 t122 t123 t124 w _ ?side1 ?side2 A15.out).mono ?_); (case side1 => repeat (first | (with_reducible first | exact HI104.out | apply IsS46.alloc | apply IsS46.drewN | apply IsS46.drew | apply IsS46.set_1 | apply IsS46.set_2) | exact HI104.out)); (case side2 => repeat (first | (with_reducible first | exact HB.out | apply below_alloc | apply pw_below_drewN | apply below_drew1 | refine below_set ?_ (IsS46.ge HI104.out)) | exact HB.out)); rintro e w18 ⟨rfl, hi, hb, hk⟩; refine ⟨_, rfl, ?_⟩; have n0_ := Aside0.mk (Kd.R_mono (Kd.R_keep (IsS46.apart (show IsS46 w _ g104 t101 t120 t121 from by repeat (first | (with_reducible first | exact HI104.out | apply IsS46.alloc | apply IsS46.drewN | apply IsS46.drew | apply IsS46.set_1 | apply IsS46.set_2) | exact HI104.out)) (by (with_reducible repeat (first | apply Kd.R_alloc | apply Kd.R_drewN | apply Kd.R_drew)); exact HO_8.out) (by decide)) hk (fun _ h => h.2)) (fun _ h => h.1)); have n1_ := Aside0.mk (hb); have n2_ := Aside0.mk (hi); clear HO_8; clear HB; clear HI104; have HO_8 := n0_; have HB := n1_; have HI104 := n2_; clear n0_ n1_ n2_; (try clear hb); (try clear hb2); (try clear hk); (try clear hi)))
      (try simp only [Act.put, List.setIfInBounds_toArray, List.set_cons_zero, List.set_cons_succ])
      go_cut [12] (fun v12 wc => ∃ (kq : Nat) (x12_15 : ByteArray), v12 = .string x12_15 ∧ Aside0 (spec_DrawCheckTimed.j1 kq t105 x9_5 (wrap64 ((wrap64 ((wrap64 (Int.tdiv x9_5 30)) - 2)) + t119)) (wrap64 (4 + t122)) x12_15 t101 t123 t124 = some (r1, r2, r3, r4, r5)) ∧ Aside0 (kq ≤ kj5) ∧ Aside0 (Kd.R (Kd.int .u8) 5 wc w.heap.size (fun _ => True) v106 t105) ∧ Aside0 (IsS46 w wc g104 t101 t123 t124) ∧ Aside0 (Below w.heap.size w wc))
      case first =>
        have H := HC16.out
        clear HC16
        by_cases c19 : (wrap64 ((wrap64 ((wrap64 (Int.tdiv x9_5 30)) - 2)) + t119)) ≥ 0
        · rw [if_pos c19] at H
          have c19b0 : decide (0 ≤ (wrap64 ((wrap64 ((wrap64 (Int.tdiv x9_5 30)) - 2)) + t119))) = true := decide_eq_true c19
          clear c19
          (first | rw [c19b0] | (simp only [i64_w, i32_w]; rw [c19b0]) | skip)
          replace H := Option.bind_eq_some_iff.mp H
          obtain ⟨t125, A200, H⟩ := H
          replace H : (spec_DrawCheckTimed.j1 kj5 t105 x9_5 (wrap64 ((wrap64 ((wrap64 (Int.tdiv x9_5 30)) - 2)) + t119)) (wrap64 (4 + t122)) t125 t101 t123 t124) = some (r1, r2, r3, r4, r5) := H
          have A20 := Aside0.mk A200
          clear A200
          have H' := Aside0.mk H
          clear H
          obtain ⟨Ao21, co21, eo21⟩ := Kd.R_slice HO_8.out
          subst eo21
          go_wp2_with (first | ((with_reducible refine gate_callee (f := 25) rfl ?_); refine goesL_ (some 39) rfl rfl Tryd.func25 (by kernel_rfl) rfl #[.slice Ao21 t105.length co21, .int .i64 (wrap64 ((wrap64 ((wrap64 (Int.tdiv x9_5 30)) - 2)) + t119)), .int .i64 (wrap64 (4 + t122))] rfl (by (try simp only [List.map_toArray, List.map_cons, List.map_nil]); first | done | rfl | (simp only [List.length_drop, List.length_take]; rfl)) ?_; (with_reducible refine (spec_l16Code.calls kj5 _ _ t105 (wrap64 ((wrap64 ((wrap64 (Int.tdiv x9_5 30)) - 2)) + t119)) (wrap64 (4 + t122)) t125 _ ?side1 ?side2 A20.out).mono ?_); (case side1 => repeat (first | exact (Kd.R_reads' HO_8.out).2.2 | (with_reducible refine Kd.C_alloc ?_ _) | (with_reducible refine Kd.C_drewN ?_ _) | (with_reducible refine Kd.C_drew ?_))); (case side2 => exact (Kd.R_reads' HO_8.out).2.1); rintro e w22 ⟨rfl, hb⟩; refine ⟨_, rfl, ?_⟩; have n0_ := Aside0.mk (Kd.R_below (by (with_reducible repeat (first | apply Kd.R_alloc | apply Kd.R_drewN | apply Kd.R_drew)); exact HO_8.out) hb); have n1_ := Aside0.mk (IsS46.below (by repeat (first | (with_reducible first | exact HI104.out | apply IsS46.alloc | apply IsS46.drewN | apply IsS46.drew | apply IsS46.set_1 | apply IsS46.set_2) | exact HI104.out)) hb); have n2_ := Aside0.mk (below_step (by repeat (first | (with_reducible first | exact HB.out | apply below_alloc | apply pw_below_drewN | apply below_drew1 | refine below_set ?_ (IsS46.ge HI104.out)) | exact HB.out)) hb); clear HO_8; clear HI104; clear HB; have HO_8 := n0_; have HI104 := n1_; have HB := n2_; clear n0_ n1_ n2_; (try clear hb); (try clear hb2); (try clear hk); (try clear hi)))
          go_meet
          case rel => exact ⟨_, (t125), (by first | rfl | (simp; done) | (simp [*]; done)), H', ⟨by have := HJ5.out; first | omega | exact Nat.le_refl _⟩, ⟨by (with_reducible repeat (first | apply Kd.R_alloc | apply Kd.R_drewN | apply Kd.R_drew)); exact HO_8.out⟩, ⟨by repeat (first | (with_reducible first | exact HI104.out | apply IsS46.alloc | apply IsS46.drewN | apply IsS46.drew | apply IsS46.set_1 | apply IsS46.set_2) | exact HI104.out)⟩, ⟨by repeat (first | (with_reducible first | exact HB.out | apply below_alloc | apply pw_below_drewN | apply below_drew1 | refine below_set ?_ (IsS46.ge HI104.out)) | exact HB.out)⟩⟩
        · rw [if_neg c19] at H
          have c19b0 : decide (0 ≤ (wrap64 ((wrap64 ((wrap64 (Int.tdiv x9_5 30)) - 2)) + t119))) = false := decide_eq_false c19
          clear c19
          (first | rw [c19b0] | (simp only [i64_w, i32_w]; rw [c19b0]) | skip)
          have H' := Aside0.mk H
          clear H
          go_wp2
          go_meet
          case rel => exact ⟨_, ((⟨#[]⟩ : ByteArray)), (by first | rfl | (simp; done) | (simp [*]; done)), H', ⟨by have := HJ5.out; first | omega | exact Nat.le_refl _⟩, ⟨by (with_reducible repeat (first | apply Kd.R_alloc | apply Kd.R_drewN | apply Kd.R_drew)); exact HO_8.out⟩, ⟨by repeat (first | (with_reducible first | exact HI104.out | apply IsS46.alloc | apply IsS46.drewN | apply IsS46.drew | apply IsS46.set_1 | apply IsS46.set_2) | exact HI104.out)⟩, ⟨by repeat (first | (with_reducible first | exact HB.out | apply below_alloc | apply pw_below_drewN | apply below_drew1 | refine below_set ?_ (IsS46.ge HI104.out)) | exact HB.out)⟩⟩
      case rest =>
        clear HC16
        try clear c1
        try clear c2
        try clear p2
        try clear c3
        try clear p6
        try clear c9
        try clear c11
        try clear c17
        try clear c19
        try clear c19b0
        try clear p2
        obtain ⟨kq, x12_15, rfl, HA, HJ15, HO_8, HI104, HB⟩ := hcut
        cases kq with
        | zero => exact absurd HA.out (by simp [spec_DrawCheckTimed.j1])
        | succ kj15 =>
          have H := HA.out
          clear HA
          simp only [spec_DrawCheckTimed.j1] at H
          replace H := Option.bind_eq_some_iff.mp H
          obtain ⟨⟨t126, t127, t128⟩, A230, H⟩ := H
          replace H : ((spec_l1Cur_one.f t101 t127 t128 20).bind fun bt129 => (if bt129.1 = true then ((some (([(-1), 100000000000, 100000000001] : List Int) : List Int)).bind fun y132 => ((spec_l1Cur_pick.f t101 bt129.2.1 bt129.2.2 3).bind fun bt135 => (if 0 ≤ bt135.1 then (if bt135.1 < (y132.length : Int) then (some (t105, rd y132 bt135.1, wrap64 ((wrap64 ((wrap64 ((wrap64 ((wrap64 (Int.tdiv x9_5 30)) - 2)) + t119)) - 2)) + t126), (wrap64 (4 + t122)), x12_15)) else (none)) else (none)))) else (some (t105, x9_5, wrap64 ((wrap64 ((wrap64 ((wrap64 ((wrap64 (Int.tdiv x9_5 30)) - 2)) + t119)) - 2)) + t126), (wrap64 (4 + t122)), x12_15)))) = some (r1, r2, r3, r4, r5) := H
          have A23 := Aside0.mk A230
          clear A230
          replace H := Option.bind_eq_some_iff.mp H
          obtain ⟨⟨t129, t130, t131⟩, A240, H⟩ := H
          replace H : (if t129 = true then ((some (([(-1), 100000000000, 100000000001] : List Int) : List Int)).bind fun y132 => ((spec_l1Cur_pick.f t101 t130 t131 3).bind fun bt135 => (if 0 ≤ bt135.1 then (if bt135.1 < (y132.length : Int) then (some (t105, rd y132 bt135.1, wrap64 ((wrap64 ((wrap64 ((wrap64 ((wrap64 (Int.tdiv x9_5 30)) - 2)) + t119)) - 2)) + t126), (wrap64 (4 + t122)), x12_15)) else (none)) else (none)))) else (some (t105, x9_5, wrap64 ((wrap64 ((wrap64 ((wrap64 ((wrap64 (Int.tdiv x9_5 30)) - 2)) + t119)) - 2)) + t126), (wrap64 (4 + t122)), x12_15))) = some (r1, r2, r3, r4, r5) := H
          have A24 := Aside0.mk A240
          clear A240
          by_cases c25 : t129 = true
          · subst c25
            have H1 : ((some (([(-1), 100000000000, 100000000001] : List Int) : List Int)).bind fun y132 => ((spec_l1Cur_pick.f t101 t130 t131 3).bind fun bt135 => (if 0 ≤ bt135.1 then (if bt135.1 < (y132.length : Int) then (some (t105, rd y132 bt135.1, wrap64 ((wrap64 ((wrap64 ((wrap64 ((wrap64 (Int.tdiv x9_5 30)) - 2)) + t119)) - 2)) + t126), (wrap64 (4 + t122)), x12_15)) else (none)) else (none)))) = some (r1, r2, r3, r4, r5) := by rw [if_pos rfl] at H; exact H
            clear H
            have H := H1
            clear H1
            obtain ⟨y132, hy132⟩ : ∃ y_ : List Int, y_ = (([(-1), 100000000000, 100000000001] : List Int)) := ⟨_, rfl⟩
            replace H : ((spec_l1Cur_pick.f t101 t130 t131 3).bind fun bt135 => (if 0 ≤ bt135.1 then (if bt135.1 < (y132.length : Int) then (some (t105, rd y132 bt135.1, wrap64 ((wrap64 ((wrap64 ((wrap64 ((wrap64 (Int.tdiv x9_5 30)) - 2)) + t119)) - 2)) + t126), (wrap64 (4 + t122)), x12_15)) else (none)) else (none))) = some (r1, r2, r3, r4, r5) := by first | (rw [hy132]; with_reducible exact H) | (have H2_ := (Option.bind_some _ _).symm.trans H; rw [hy132]; with_reducible exact H2_) | (have H2_ := (Option.bind_some _ _).symm.trans H; with_reducible exact H2_) | with_reducible exact H | (rw [hy132]; exact H) | exact H
            have Ny132 := Aside0.mk hy132
            clear hy132
            replace H := Option.bind_eq_some_iff.mp H
            obtain ⟨⟨t135, t136, t137⟩, A260, H⟩ := H
            replace H : (if 0 ≤ t135 then (if t135 < (y132.length : Int) then (some (t105, rd y132 t135, wrap64 ((wrap64 ((wrap64 ((wrap64 ((wrap64 (Int.tdiv x9_5 30)) - 2)) + t119)) - 2)) + t126), (wrap64 (4 + t122)), x12_15)) else (none)) else (none)) = some (r1, r2, r3, r4, r5) := H
            have A26 := Aside0.mk A260
            clear A260
            by_cases c27 : 0 ≤ t135
            · rw [if_pos c27] at H
              have c27b0 : decide (0 ≤ t135) = true := decide_eq_true c27
              clear c27
              by_cases c28 : t135 < (y132.length : Int)
              · rw [if_pos c28] at H
                have c28b0 : decide (t135 < (y132.length : Int)) = true := decide_eq_true c28
                clear c28
                simp only [Option.some.injEq, Prod.mk.injEq] at H
                obtain ⟨rfl, rfl, rfl, rfl, rfl⟩ := H
                go_wp2_with (first | ((with_reducible refine gate_callee (f := 30) rfl ?_); refine goesL_ (some 43) rfl rfl Tryd.func30 (by kernel_rfl) rfl #[.pointer (some ⟨g104, 0, none⟩), .int .i64 4] rfl (by (try simp only [List.map_toArray, List.map_cons, List.map_nil]); first | done | rfl | (simp only [List.length_drop, List.length_take]; rfl)) ?_; (with_reducible refine (spec_l1Cur_pick.calls g104 t101 t123 t124 4 t126 t127 t128 w _ ?side1 ?side2 A23.out).mono ?_); (case side1 => repeat (first | (with_reducible first | exact HI104.out | apply IsS46.alloc | apply IsS46.drewN | apply IsS46.drew | apply IsS46.set_1 | apply IsS46.set_2) | exact HI104.out)); (case side2 => repeat (first | (with_reducible first | exact HB.out | apply below_alloc | apply pw_below_drewN | apply below_drew1 | refine below_set ?_ (IsS46.ge HI104.out)) | exact HB.out)); rintro e w29 ⟨rfl, hi, hb, hk⟩; refine ⟨_, rfl, ?_⟩; have n0_ := Aside0.mk (Kd.R_mono (Kd.R_keep (IsS46.apart (show IsS46 w _ g104 t101 t123 t124 from by repeat (first | (with_reducible first | exact HI104.out | apply IsS46.alloc | apply IsS46.drewN | apply IsS46.drew | apply IsS46.set_1 | apply IsS46.set_2) | exact HI104.out)) (by (with_reducible repeat (first | apply Kd.R_alloc | apply Kd.R_drewN | apply Kd.R_drew)); exact HO_8.out) (by decide)) hk (fun _ h => h.2)) (fun _ h => h.1)); have n1_ := Aside0.mk (hb); have n2_ := Aside0.mk (hi); clear HO_8; clear HB; clear HI104; have HO_8 := n0_; have HB := n1_; have HI104 := n2_; clear n0_ n1_ n2_; (try clear hb); (try clear hb2); (try clear hk); (try clear hi)) | ((with_reducible refine gate_callee (f := 31) rfl ?_); refine goesL_ (some 46) rfl rfl Tryd.func31 (by kernel_rfl) rfl #[.pointer (some ⟨g104, 0, none⟩), .int .i64 20] rfl (by (try simp only [List.map_toArray, List.map_cons, List.map_nil]); first | done | rfl | (simp only [List.length_drop, List.length_take]; rfl)) ?_; (with_reducible refine (spec_l1Cur_one.calls g104 t101 t127 t128 20 true t130 t131 w _ ?side1 ?side2 A24.out).mono ?_); (case side1 => repeat (first | (with_reducible first | exact HI104.out | apply IsS46.alloc | apply IsS46.drewN | apply IsS46.drew | apply IsS46.set_1 | apply IsS46.set_2) | exact HI104.out)); (case side2 => repeat (first | (with_reducible first | exact HB.out | apply below_alloc | apply pw_below_drewN | apply below_drew1 | refine below_set ?_ (IsS46.ge HI104.out)) | exact HB.out)); rintro e w30 ⟨rfl, hi, hb, hk⟩; refine ⟨_, rfl, ?_⟩; have n0_ := Aside0.mk (Kd.R_mono (Kd.R_keep (IsS46.apart (show IsS46 w _ g104 t101 t127 t128 from by repeat (first | (with_reducible first | exact HI104.out | apply IsS46.alloc | apply IsS46.drewN | apply IsS46.drew | apply IsS46.set_1 | apply IsS46.set_2) | exact HI104.out)) (by (with_reducible repeat (first | apply Kd.R_alloc | apply Kd.R_drewN | apply Kd.R_drew)); exact HO_8.out) (by decide)) hk (fun _ h => h.2)) (fun _ h => h.1)); have n1_ := Aside0.mk (hb); have n2_ := Aside0.mk (hi); clear HO_8; clear HB; clear HI104; have HO_8 := n0_; have HB := n1_; have HI104 := n2_; clear n0_ n1_ n2_; (try clear hb); (try clear hb2); (try clear hk); (try clear hi)) | ((with_reducible refine gate_dst (N := 47) rfl ?_); refine Kd.R_lit (Kd.int .i64) _ 3 ?hg (N := 47) ?hd (xs := ([(-1), 100000000000, 100000000001] : List Int)) (inner := [.int .i64 (-1), .int .i64 100000000000, .int .i64 100000000001]) (ok := fun _ => True) (okp := fun _ => True) ?hr ?hp (fun _ hk => hk) trivial (Below.refl _ _) (Nat.le_refl _) (by simp) ?_; (case hd => rfl); (case hg => rfl); (case hr => first | (go_simp; done) | (go_simp; rfl)); (case hp => exact (Reps.one (show Kd.M (Kd.int .i64) _ _ _ (-1) [.int .i64 (-1)] from rfl) (Reps.one (show Kd.M (Kd.int .i64) _ _ _ 100000000000 [.int .i64 100000000000] from rfl) (Reps.one (show Kd.M (Kd.int .i64) _ _ _ 100000000001 [.int .i64 100000000001] from rfl) (Reps.none _ _))))); intro v133 w31 ho32 hb hg_ hnew_; clear hg_ hnew_; (first | rw [← Ny132.out] at ho32 | (simp only [Int.reduceToNat] at ho32; rw [← Ny132.out] at ho32)); have n0_ := Aside0.mk (Kd.R_below (by (with_reducible repeat (first | apply Kd.R_alloc | apply Kd.R_drewN | apply Kd.R_drew)); exact HO_8.out) hb); have n1_ := Aside0.mk (Kd.R_lower ho32 (below_size (by repeat (first | (with_reducible first | exact HB.out | apply below_alloc | apply pw_below_drewN | apply below_drew1 | refine below_set ?_ (IsS46.ge HI104.out)) | exact HB.out)))); have n2_ := Aside0.mk (IsS46.below (by repeat (first | (with_reducible first | exact HI104.out | apply IsS46.alloc | apply IsS46.drewN | apply IsS46.drew | apply IsS46.set_1 | apply IsS46.set_2) | exact HI104.out)) hb); have n3_ := Aside0.mk (below_step (by repeat (first | (with_reducible first | exact HB.out | apply below_alloc | apply pw_below_drewN | apply below_drew1 | refine below_set ?_ (IsS46.ge HI104.out)) | exact HB.out)) hb); clear HO_8; clear HI104; clear HB; have HO_8 := n0_; have HO134 := n1_; have HI104 := n2_; have HB := n3_; clear n0_ n1_ n2_ n3_; clear hb ho32) | ((with_reducible refine gate_callee (f := 30) rfl ?_); refine goesL_ (some 49) rfl rfl Tryd.func30 (by kernel_rfl) rfl #[.pointer (some ⟨g104, 0, none⟩), .int .i64 3] rfl (by (try simp only [List.map_toArray, List.map_cons, List.map_nil]); first | done | rfl | (simp only [List.length_drop, List.length_take]; rfl)) ?_; (with_reducible refine (spec_l1Cur_pick.calls g104 t101 t130 t131 3 t135 t136 t137 w _ ?side1 ?side2 A26.out).mono ?_); (case side1 => repeat (first | (with_reducible first | exact HI104.out | apply IsS46.alloc | apply IsS46.drewN | apply IsS46.drew | apply IsS46.set_1 | apply IsS46.set_2) | exact HI104.out)); (case side2 => repeat (first | (with_reducible first | exact HB.out | apply below_alloc | apply pw_below_drewN | apply below_drew1 | refine below_set ?_ (IsS46.ge HI104.out)) | exact HB.out)); rintro e w33 ⟨rfl, hi, hb, hk⟩; refine ⟨_, rfl, ?_⟩; have n0_ := Aside0.mk (Kd.R_mono (Kd.R_keep (IsS46.apart (show IsS46 w _ g104 t101 t130 t131 from by repeat (first | (with_reducible first | exact HI104.out | apply IsS46.alloc | apply IsS46.drewN | apply IsS46.drew | apply IsS46.set_1 | apply IsS46.set_2) | exact HI104.out)) (by (with_reducible repeat (first | apply Kd.R_alloc | apply Kd.R_drewN | apply Kd.R_drew)); exact HO_8.out) (by decide)) hk (fun _ h => h.2)) (fun _ h => h.1)); have n1_ := Aside0.mk (Kd.R_mono (Kd.R_keep (IsS46.apart (show IsS46 w _ g104 t101 t130 t131 from by repeat (first | (with_reducible first | exact HI104.out | apply IsS46.alloc | apply IsS46.drewN | apply IsS46.drew | apply IsS46.set_1 | apply IsS46.set_2) | exact HI104.out)) (by (with_reducible repeat (first | apply Kd.R_alloc | apply Kd.R_drewN | apply Kd.R_drew)); exact HO134.out) (by decide)) hk (fun _ h => h.2)) (fun _ h => h.1)); have n2_ := Aside0.mk (hb); have n3_ := Aside0.mk (hi); clear HO_8; clear HO134; clear HB; clear HI104; have HO_8 := n0_; have HO134 := n1_; have HB := n2_; have HI104 := n3_; clear n0_ n1_ n2_ n3_; (try clear hb); (try clear hb2); (try clear hk); (try clear hi); obtain ⟨Ao34, co34, eo34⟩ := Kd.R_slice HO134.out; subst eo34; have p138 : 0 ≤ (t135 : Int) := of_decide_eq_true (by first | (with_reducible assumption) | assumption); have q138 : t135 < (y132.length : Int) := of_decide_eq_true (by first | (with_reducible assumption) | assumption); obtain ⟨ad138, e138, hx138_0⟩ := Kd.at_int (Kd.R_reads' HO134.out).2.2 t135 p138 q138; cases e138; replace p138 := eq_true p138; replace q138 := eq_true q138))
                refine bodyPost_ret (results_list (rs := [.tmp 2, .tmp 3, .tmp 4, .tmp 5, .tmp 6]) rfl (by simp) (.tmp (.tmp (.tmp (.tmp (.tmp .nil)))))) rfl ?_
                exact ⟨_, by first | rfl | (simp [errW_none, errW_some] <;> rfl) | (simp [*, errW_none, errW_some] <;> rfl), by (with_reducible repeat (first | apply Kd.R_alloc | apply Kd.R_drewN | apply Kd.R_drew)); exact HO_8.out, by repeat (first | (with_reducible first | exact HB.out | apply below_alloc | apply pw_below_drewN | apply below_drew1 | refine below_set ?_ (IsS46.ge HI104.out)) | exact HB.out)⟩
              · rw [if_neg c28] at H
                exact absurd H (by simp)
            · rw [if_neg c27] at H
              exact absurd H (by simp)
          · replace c25 := Bool.eq_false_iff.mpr c25
            subst c25
            have H1 : (some (t105, x9_5, wrap64 ((wrap64 ((wrap64 ((wrap64 ((wrap64 (Int.tdiv x9_5 30)) - 2)) + t119)) - 2)) + t126), (wrap64 (4 + t122)), x12_15)) = some (r1, r2, r3, r4, r5) := by rw [if_neg (show ¬ (false = true) by decide)] at H; exact H
            clear H
            have H := H1
            clear H1
            simp only [Option.some.injEq, Prod.mk.injEq] at H
            obtain ⟨rfl, rfl, rfl, rfl, rfl⟩ := H
            go_wp2_with (first | ((with_reducible refine gate_callee (f := 30) rfl ?_); refine goesL_ (some 43) rfl rfl Tryd.func30 (by kernel_rfl) rfl #[.pointer (some ⟨g104, 0, none⟩), .int .i64 4] rfl (by (try simp only [List.map_toArray, List.map_cons, List.map_nil]); first | done | rfl | (simp only [List.length_drop, List.length_take]; rfl)) ?_; (with_reducible refine (spec_l1Cur_pick.calls g104 t101 t123 t124 4 t126 t127 t128 w _ ?side1 ?side2 A23.out).mono ?_); (case side1 => repeat (first | (with_reducible first | exact HI104.out | apply IsS46.alloc | apply IsS46.drewN | apply IsS46.drew | apply IsS46.set_1 | apply IsS46.set_2) | exact HI104.out)); (case side2 => repeat (first | (with_reducible first | exact HB.out | apply below_alloc | apply pw_below_drewN | apply below_drew1 | refine below_set ?_ (IsS46.ge HI104.out)) | exact HB.out)); rintro e w35 ⟨rfl, hi, hb, hk⟩; refine ⟨_, rfl, ?_⟩; have n0_ := Aside0.mk (Kd.R_mono (Kd.R_keep (IsS46.apart (show IsS46 w _ g104 t101 t123 t124 from by repeat (first | (with_reducible first | exact HI104.out | apply IsS46.alloc | apply IsS46.drewN | apply IsS46.drew | apply IsS46.set_1 | apply IsS46.set_2) | exact HI104.out)) (by (with_reducible repeat (first | apply Kd.R_alloc | apply Kd.R_drewN | apply Kd.R_drew)); exact HO_8.out) (by decide)) hk (fun _ h => h.2)) (fun _ h => h.1)); have n1_ := Aside0.mk (hb); have n2_ := Aside0.mk (hi); clear HO_8; clear HB; clear HI104; have HO_8 := n0_; have HB := n1_; have HI104 := n2_; clear n0_ n1_ n2_; (try clear hb); (try clear hb2); (try clear hk); (try clear hi)) | ((with_reducible refine gate_callee (f := 31) rfl ?_); refine goesL_ (some 46) rfl rfl Tryd.func31 (by kernel_rfl) rfl #[.pointer (some ⟨g104, 0, none⟩), .int .i64 20] rfl (by (try simp only [List.map_toArray, List.map_cons, List.map_nil]); first | done | rfl | (simp only [List.length_drop, List.length_take]; rfl)) ?_; (with_reducible refine (spec_l1Cur_one.calls g104 t101 t127 t128 20 false t130 t131 w _ ?side1 ?side2 A24.out).mono ?_); (case side1 => repeat (first | (with_reducible first | exact HI104.out | apply IsS46.alloc | apply IsS46.drewN | apply IsS46.drew | apply IsS46.set_1 | apply IsS46.set_2) | exact HI104.out)); (case side2 => repeat (first | (with_reducible first | exact HB.out | apply below_alloc | apply pw_below_drewN | apply below_drew1 | refine below_set ?_ (IsS46.ge HI104.out)) | exact HB.out)); rintro e w36 ⟨rfl, hi, hb, hk⟩; refine ⟨_, rfl, ?_⟩; have n0_ := Aside0.mk (Kd.R_mono (Kd.R_keep (IsS46.apart (show IsS46 w _ g104 t101 t127 t128 from by repeat (first | (with_reducible first | exact HI104.out | apply IsS46.alloc | apply IsS46.drewN | apply IsS46.drew | apply IsS46.set_1 | apply IsS46.set_2) | exact HI104.out)) (by (with_reducible repeat (first | apply Kd.R_alloc | apply Kd.R_drewN | apply Kd.R_drew)); exact HO_8.out) (by decide)) hk (fun _ h => h.2)) (fun _ h => h.1)); have n1_ := Aside0.mk (hb); have n2_ := Aside0.mk (hi); clear HO_8; clear HB; clear HI104; have HO_8 := n0_; have HB := n1_; have HI104 := n2_; clear n0_ n1_ n2_; (try clear hb); (try clear hb2); (try clear hk); (try clear hi)))
            refine bodyPost_ret (results_list (rs := [.tmp 2, .tmp 3, .tmp 4, .tmp 5, .tmp 6]) rfl (by simp) (.tmp (.tmp (.tmp (.tmp (.tmp .nil)))))) rfl ?_
            exact ⟨_, by first | rfl | (simp [errW_none, errW_some] <;> rfl) | (simp [*, errW_none, errW_some] <;> rfl), by (with_reducible repeat (first | apply Kd.R_alloc | apply Kd.R_drewN | apply Kd.R_drew)); exact HO_8.out, by repeat (first | (with_reducible first | exact HB.out | apply below_alloc | apply pw_below_drewN | apply below_drew1 | refine below_set ?_ (IsS46.ge HI104.out)) | exact HB.out)⟩

end Go.Proofs.YtgolcojhnklfdaaDoor.Pr
