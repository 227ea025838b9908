/- Printed texts and walks that the law FnChallenged leans on, joined. -/
import Derived.Test.YtgolcojhnklfdaaFullFnChallengedB
import Derived.Test.YtgolcojhnklfdaaFullFnChallengedC
import Derived.Test.YtgolcojhnklfdaaFullFnChallengedA
-- Written by mkprint.py (a program of this repo, which drives the print.py of the kit): Lean checks it.
namespace Go.Proofs.Ytgolcojhnklfdaa.Pr
open Go.RowKit Go.Proofs.YtgolcojhnklfdaaW.PrintWords Go.Proofs.YtgolcojhnklfdaaW.PrintLast Go.Proofs.YtgolcojhnklfdaaW.PrintMore
attribute [local go_sem] max2_int min2_int max_two min_two max_three min_three max_four min_four   -- for this text's walks alone
set_option linter.unusedVariables false
set_option linter.unusedSimpArgs false

/-! ### impl_yanswerBytes: function 68 -/
def impl_yanswerBytes.f (a0 : ByteArray) (l1 : List Int) (a2 : Int) : Option (List Int) := (bytesOfS.f a0).bind fun t101 => ((impl_Digest.f t101).bind fun t104 => ((impl_Digest.f l1).bind fun t107 => ((impl_ybytes.f a2).bind fun t110 => ((slices_Concat_byte_byte.f (([t104, t107, t110] : List (List Int)))).bind fun t116 => (some t116)))))
set_option maxHeartbeats 8000000 in
set_option maxRecDepth 100000 in
theorem impl_yanswerBytes.calls (a0 : ByteArray) (A1 : Option Addr) (c1 : Nat) (l1 : List Int) (a2 : Int) (r : List Int) (w : World) (hr1 : Kd.C (Kd.int .u8) w A1 l1.length l1) (hc1 : l1.length ≤ c1) (h : impl_yanswerBytes.f a0 l1 a2 = some r) :
    Calls Try.prog 68 #[.string a0, .slice A1 l1.length c1, .int .i64 a2] w fun e w' => ∃ v0_ : Value, e = .returned (v0_) ∧ Kd.R (Kd.int .u8) 5 w' w.heap.size (fun _ => True) v0_ r ∧ Below w.heap.size w w' := by
  have HR1 := Aside0.mk hr1
  have HC1 := Aside0.mk hc1
  clear hr1 hc1
  have HB := Aside0.mk (Below.refl w.heap.size w)
  have H : ((bytesOfS.f a0).bind fun t101 => ((impl_Digest.f t101).bind fun t104 => ((impl_Digest.f l1).bind fun t107 => ((impl_ybytes.f a2).bind fun t110 => ((slices_Concat_byte_byte.f (([t104, t107, t110] : List (List Int)))).bind fun t116 => (some t116)))))) = some r := h
  clear h
  replace H := Option.bind_eq_some_iff.mp H
  obtain ⟨t101, A40, H⟩ := H
  replace H : ((impl_Digest.f t101).bind fun t104 => ((impl_Digest.f l1).bind fun t107 => ((impl_ybytes.f a2).bind fun t110 => ((slices_Concat_byte_byte.f (([t104, t107, t110] : List (List Int)))).bind fun t116 => (some t116))))) = some r := H
  have A4 := Aside0.mk A40
  clear A40
  replace H := Option.bind_eq_some_iff.mp H
  obtain ⟨t104, A50, H⟩ := H
  replace H : ((impl_Digest.f l1).bind fun t107 => ((impl_ybytes.f a2).bind fun t110 => ((slices_Concat_byte_byte.f (([t104, t107, t110] : List (List Int)))).bind fun t116 => (some t116)))) = some r := H
  have A5 := Aside0.mk A50
  clear A50
  replace H := Option.bind_eq_some_iff.mp H
  obtain ⟨t107, A60, H⟩ := H
  replace H : ((impl_ybytes.f a2).bind fun t110 => ((slices_Concat_byte_byte.f (([t104, t107, t110] : List (List Int)))).bind fun t116 => (some t116))) = some r := H
  have A6 := Aside0.mk A60
  clear A60
  replace H := Option.bind_eq_some_iff.mp H
  obtain ⟨t110, A70, H⟩ := H
  replace H : ((slices_Concat_byte_byte.f (([t104, t107, t110] : List (List Int)))).bind fun t116 => (some t116)) = some r := H
  have A7 := Aside0.mk A70
  clear A70
  obtain ⟨y113, hy113⟩ : ∃ y_ : List (List Int), y_ = (([t104, t107, t110] : List (List Int))) := ⟨_, rfl⟩
  replace H : ((slices_Concat_byte_byte.f y113).bind fun t116 => (some t116)) = some r := by first | (rw [hy113]; with_reducible exact H) | (have H2_ := (Option.bind_some _ _).symm.trans H; rw [hy113]; with_reducible exact H2_) | (have H2_ := (Option.bind_some _ _).symm.trans H; with_reducible exact H2_) | with_reducible exact H | (rw [hy113]; exact H) | exact H
  have Ny113 := Aside0.mk hy113
  clear hy113
  replace H := Option.bind_eq_some_iff.mp H
  obtain ⟨t116, A80, H⟩ := H
  replace H : (some t116) = some r := H
  have A8 := Aside0.mk A80
  clear A80
  obtain rfl := Option.some.inj H
  go_enter Try.func68, Try.ntmps68
  go_wp2_with (first | ((with_reducible refine gate_convert (src := 9) (dst := 26) rfl ?_); refine bytesGoesL_ (some 8) rfl rfl (s := a0) rfl rfl ?_; (with_reducible refine (bytesOfS.calls a0 t101 _ A4.out).mono ?_); rintro e w9 ⟨v102, rfl, ho0, hb⟩; refine ⟨_, rfl, ?_⟩; have n0_ := Aside0.mk (Kd.V_lower (Kd.V_mono (ok' := fun k_ => True) ho0 (fun k_ hk_ => trivial)) (below_size (by repeat (first | (with_reducible first | exact HB.out | apply below_alloc | apply pw_below_drewN | apply below_drew1) | exact HB.out)))); have n1_ := Aside0.mk (below_step (by repeat (first | (with_reducible first | exact HB.out | apply below_alloc | apply pw_below_drewN | apply below_drew1) | exact HB.out)) hb); clear HB; have HO103 := n0_; have HB := n1_; clear n0_ n1_; (try clear hb); (try clear hb2); (try clear hk); (try clear hi); (try clear ho0); obtain ⟨Ao10, co10, eo10⟩ := Kd.V_slice HO103.out; subst eo10) | ((with_reducible refine gate_callee (f := 59) rfl ?_); refine goesL_ (some 9) rfl rfl Try.func59 (by kernel_rfl) rfl #[.slice Ao10 t101.length co10] rfl (by (try simp only [List.map_toArray, List.map_cons, List.map_nil]); first | done | rfl | (simp only [List.length_drop, List.length_take]; rfl)) ?_; (with_reducible refine (impl_Digest.calls _ _ t101 t104 _ ?side1 ?side2 A5.out).mono ?_); (case side1 => repeat (first | exact (Kd.V_reads' HO103.out).2.2 | (with_reducible refine Kd.C_alloc ?_ _) | (with_reducible refine Kd.C_drewN ?_ _) | (with_reducible refine Kd.C_drew ?_))); (case side2 => exact (Kd.V_reads' HO103.out).2.1); rintro e w11 ⟨v105, rfl, ho0, hb⟩; refine ⟨_, rfl, ?_⟩; have n0_ := Aside0.mk (Kd.V_elder' (by (with_reducible repeat (first | apply Kd.V_alloc | apply Kd.V_drewN | apply Kd.V_drew)); exact HO103.out) (Kd.R_base ho0) hb); have n1_ := Aside0.mk (Kd.R_lower ho0 (below_size (by repeat (first | (with_reducible first | exact HB.out | apply below_alloc | apply pw_below_drewN | apply below_drew1) | exact HB.out)))); have n2_ := Aside0.mk (below_step (by repeat (first | (with_reducible first | exact HB.out | apply below_alloc | apply pw_below_drewN | apply below_drew1) | exact HB.out)) hb); clear HO103; clear HB; have HO103 := n0_; have HO106 := n1_; have HB := n2_; clear n0_ n1_ n2_; (try clear hb); (try clear hb2); (try clear hk); (try clear hi); (try clear ho0)) | ((with_reducible refine gate_callee (f := 59) rfl ?_); refine goesL_ (some 11) rfl rfl Try.func59 (by kernel_rfl) rfl #[.slice A1 l1.length c1] rfl (by (try simp only [List.map_toArray, List.map_cons, List.map_nil]); first | done | rfl | (simp only [List.length_drop, List.length_take]; rfl)) ?_; (with_reducible refine (impl_Digest.calls _ _ l1 t107 _ ?side1 ?side2 A6.out).mono ?_); (case side1 => repeat (first | exact (Kd.C_below HR1.out HB.out) | (with_reducible refine Kd.C_alloc ?_ _) | (with_reducible refine Kd.C_drewN ?_ _) | (with_reducible refine Kd.C_drew ?_))); (case side2 => exact HC1.out); rintro e w12 ⟨v108, rfl, ho0, hb⟩; refine ⟨_, rfl, ?_⟩; have n0_ := Aside0.mk (Kd.V_elder' (by (with_reducible repeat (first | apply Kd.V_alloc | apply Kd.V_drewN | apply Kd.V_drew)); exact HO103.out) (Kd.R_base ho0) hb); have n1_ := Aside0.mk (Kd.R_elder' (by (with_reducible repeat (first | apply Kd.R_alloc | apply Kd.R_drewN | apply Kd.R_drew)); exact HO106.out) (Kd.R_base ho0) hb); have n2_ := Aside0.mk (Kd.R_lower (Kd.R_new' ho0 (Kd.R_lt (by (with_reducible repeat (first | apply Kd.R_alloc | apply Kd.R_drewN | apply Kd.R_drew)); exact HO106.out))) (below_size (by repeat (first | (with_reducible first | exact HB.out | apply below_alloc | apply pw_below_drewN | apply below_drew1) | exact HB.out)))); have n3_ := Aside0.mk (below_step (by repeat (first | (with_reducible first | exact HB.out | apply below_alloc | apply pw_below_drewN | apply below_drew1) | exact HB.out)) hb); clear HO103; clear HO106; clear HB; have HO103 := n0_; have HO106 := n1_; have HO109 := n2_; have HB := n3_; clear n0_ n1_ n2_ n3_; (try clear hb); (try clear hb2); (try clear hk); (try clear hi); (try clear ho0)) | ((with_reducible refine gate_callee (f := 120) rfl ?_); refine goesL_ (some 13) rfl rfl Try.func120 (by kernel_rfl) rfl #[.int .i64 a2] rfl (by (try simp only [List.map_toArray, List.map_cons, List.map_nil]); first | done | rfl | (simp only [List.length_drop, List.length_take]; rfl)) ?_; (with_reducible refine (impl_ybytes.calls a2 t110 _ A7.out).mono ?_); rintro e w13 ⟨v111, rfl, ho0, hb⟩; refine ⟨_, rfl, ?_⟩; have n0_ := Aside0.mk (Kd.V_elder' (by (with_reducible repeat (first | apply Kd.V_alloc | apply Kd.V_drewN | apply Kd.V_drew)); exact HO103.out) (Kd.R_base ho0) hb); have n1_ := Aside0.mk (Kd.R_elder' (by (with_reducible repeat (first | apply Kd.R_alloc | apply Kd.R_drewN | apply Kd.R_drew)); exact HO106.out) (Kd.R_base ho0) hb); have n2_ := Aside0.mk (Kd.R_elder' (by (with_reducible repeat (first | apply Kd.R_alloc | apply Kd.R_drewN | apply Kd.R_drew)); exact HO109.out) (Kd.R_base ho0) hb); have n3_ := Aside0.mk (Kd.R_lower (Kd.R_new' (Kd.R_new' ho0 (Kd.R_lt (by (with_reducible repeat (first | apply Kd.R_alloc | apply Kd.R_drewN | apply Kd.R_drew)); exact HO106.out))) (Kd.R_lt (by (with_reducible repeat (first | apply Kd.R_alloc | apply Kd.R_drewN | apply Kd.R_drew)); exact HO109.out))) (below_size (by repeat (first | (with_reducible first | exact HB.out | apply below_alloc | apply pw_below_drewN | apply below_drew1) | exact HB.out)))); have n4_ := Aside0.mk (below_step (by repeat (first | (with_reducible first | exact HB.out | apply below_alloc | apply pw_below_drewN | apply below_drew1) | exact HB.out)) hb); clear HO103; clear HO106; clear HO109; clear HB; have HO103 := n0_; have HO106 := n1_; have HO109 := n2_; have HO112 := n3_; have HB := n4_; clear n0_ n1_ n2_ n3_ n4_; (try clear hb); (try clear hb2); (try clear hk); (try clear hi); (try clear ho0); obtain ⟨Ao14, co14, eo14⟩ := Kd.R_slice HO106.out; subst eo14; obtain ⟨Ao15, co15, eo15⟩ := Kd.R_slice HO109.out; subst eo15; obtain ⟨Ao16, co16, eo16⟩ := Kd.R_slice HO112.out; subst eo16) | ((with_reducible refine gate_dst (N := 14) rfl ?_); refine Kd.N_lit (Kd.slice 5 (Kd.int .u8)) _ 26 ?hg (N' := 14) ?hd (xs := ([t104, t107, t110] : List (List Int))) (inner := [.slice Ao14 t104.length co14, .slice Ao15 t107.length co15, .slice Ao16 t110.length co16]) (ok := (fun _ => True)) (okp := (fun _ => True)) ?hr ?hp (fun _ hk => hk) ((show ∀ k_, w13.heap.size ≤ k_ → (fun _ => True) k_ from fun k_ hk => trivial) _ (Nat.le_refl _)) (Below.refl _ _) (Nat.le_refl _) (by simp) ?_; (case hd => rfl); (case hg => rfl); (case hr => first | (go_simp; done) | (go_simp; rfl)); (case hp => exact (Reps.one (show Kd.FK (Kd.slice 5 (Kd.int .u8)) _ _ t104 [.slice Ao14 t104.length co14] from (Kd.FK_slice_mk (Kd.R_reads' (Kd.R_mono (ok' := (fun _ => True)) (HO106.out) (fun k_ hk => trivial))).2.1 (Kd.R_F (Kd.R_mono (ok' := (fun _ => True)) (HO106.out) (fun k_ hk => trivial))))) (Reps.one (show Kd.FK (Kd.slice 5 (Kd.int .u8)) _ _ t107 [.slice Ao15 t107.length co15] from (Kd.FK_slice_mk (Kd.R_reads' (Kd.R_mono (ok' := (fun _ => True)) (HO109.out) (fun k_ hk => trivial))).2.1 (Kd.R_F (Kd.R_mono (ok' := (fun _ => True)) (HO109.out) (fun k_ hk => trivial))))) (Reps.one (show Kd.FK (Kd.slice 5 (Kd.int .u8)) _ _ t110 [.slice Ao16 t110.length co16] from (Kd.FK_slice_mk (Kd.R_reads' (Kd.R_mono (ok' := (fun _ => True)) (HO112.out) (fun k_ hk => trivial))).2.1 (Kd.R_F (Kd.R_mono (ok' := (fun _ => True)) (HO112.out) (fun k_ hk => trivial))))) (Reps.none _ _))))); intro v114 w17 ho18 hb hg_ hnew_; clear hg_ hnew_; (first | rw [← Ny113.out] at ho18 | (simp only [Int.reduceToNat] at ho18; rw [← Ny113.out] at ho18)); have n0_ := Aside0.mk (Kd.V_elder' (by (with_reducible repeat (first | apply Kd.V_alloc | apply Kd.V_drewN | apply Kd.V_drew)); exact HO103.out) (Kd.N_base ho18) hb); have n1_ := Aside0.mk (Kd.N_lower ho18 (below_size (by repeat (first | (with_reducible first | exact HB.out | apply below_alloc | apply pw_below_drewN | apply below_drew1) | exact HB.out)))); have n2_ := Aside0.mk (below_step (by repeat (first | (with_reducible first | exact HB.out | apply below_alloc | apply pw_below_drewN | apply below_drew1) | exact HB.out)) hb); clear HO103; clear HB; clear HO106; clear HO109; clear HO112; have HO103 := n0_; have HO115 := n1_; have HB := n2_; clear n0_ n1_ n2_; clear hb ho18; obtain ⟨Ao19, co19, eo19⟩ := Kd.N_slice HO115.out; subst eo19) | ((with_reducible refine gate_callee (f := 124) rfl ?_); refine goesL_ (some 15) rfl rfl Try.func124 (by kernel_rfl) rfl #[.slice Ao19 y113.length co19] rfl (by (try simp only [List.map_toArray, List.map_cons, List.map_nil]); first | done | rfl | (simp only [List.length_drop, List.length_take]; rfl)) ?_; (with_reducible refine (slices_Concat_byte_byte.calls _ _ y113 t116 _ ?side1 ?side2 A8.out).mono ?_); (case side1 => repeat (first | exact (Kd.N_reads' HO115.out).2.2 | (with_reducible refine Kd.C_alloc ?_ _) | (with_reducible refine Kd.C_drewN ?_ _) | (with_reducible refine Kd.C_drew ?_))); (case side2 => exact (Kd.N_reads' HO115.out).2.1); rintro e w20 ⟨v117, rfl, ho0, hb⟩; refine ⟨_, rfl, ?_⟩; have n0_ := Aside0.mk (Kd.V_elder' (by (with_reducible repeat (first | apply Kd.V_alloc | apply Kd.V_drewN | apply Kd.V_drew)); exact HO103.out) (Kd.R_base ho0) hb); have n1_ := Aside0.mk (Kd.N_elder' (by (with_reducible repeat (first | apply Kd.N_alloc | apply Kd.N_drewN | apply Kd.N_drew)); exact HO115.out) (Kd.R_base ho0) hb); have n2_ := Aside0.mk (Kd.R_lower ho0 (below_size (by repeat (first | (with_reducible first | exact HB.out | apply below_alloc | apply pw_below_drewN | apply below_drew1) | exact HB.out)))); have n3_ := Aside0.mk (below_step (by repeat (first | (with_reducible first | exact HB.out | apply below_alloc | apply pw_below_drewN | apply below_drew1) | exact HB.out)) hb); clear HO103; clear HO115; clear HB; have HO103 := n0_; have HO115 := n1_; have HO118 := n2_; have HB := n3_; clear n0_ n1_ n2_ n3_; (try clear hb); (try clear hb2); (try clear hk); (try clear hi); (try clear ho0)))
  go_ret
  exact ⟨_, by first | rfl | (simp [errW_none, errW_some] <;> rfl) | (simp [*, errW_none, errW_some] <;> rfl), by (with_reducible repeat (first | apply Kd.R_alloc | apply Kd.R_drewN | apply Kd.R_drew)); exact HO118.out, by repeat (first | (with_reducible first | exact HB.out | apply below_alloc | apply pw_below_drewN | apply below_drew1) | exact HB.out)⟩

end Go.Proofs.Ytgolcojhnklfdaa.Pr
-- Written by mkprint.py (a program of this repo, which drives the print.py of the kit): Lean checks it.
namespace Go.Proofs.Ytgolcojhnklfdaa.Pr
open Go.RowKit Go.Proofs.YtgolcojhnklfdaaW.PrintWords Go.Proofs.YtgolcojhnklfdaaW.PrintLast Go.Proofs.YtgolcojhnklfdaaW.PrintMore
attribute [local go_sem] max2_int min2_int max_two min_two max_three min_three max_four min_four   -- for this text's walks alone
set_option linter.unusedVariables false
set_option linter.unusedSimpArgs false

/-! ### impl_CheckAnswer: function 18 -/
def impl_CheckAnswer.j0 : Nat → List Int → Bool → Int → ByteArray → Int → ByteArray → Int → Int → Int → Option (Int × ByteArray × Int × Int)
  | 0, _, _, _, _, _, _, _, _, _ => none
  | k + 1, x1, x8, x102000, x102001, x102002, x103000, x103001, x103002, x103003 => if x8 = true then (some (0, (⟨#[]⟩ : ByteArray), 0, 1)) else (if x103000.toList = x102001.toList then (if x103001 ≤ x102002 then (some (0, (⟨#[]⟩ : ByteArray), 0, 3)) else ((impl_yanswerBytes.f x103000 x1 x103001).bind fun t106 => ((impl_Verify.f k x102000 t106 x103002 x103003).bind fun t109 => (if t109 = true then (some (x102000, x102001, x103001, 0)) else (some (0, (⟨#[]⟩ : ByteArray), 0, 4)))))) else (some (0, (⟨#[]⟩ : ByteArray), 0, 2)))
def impl_CheckAnswer.f (k : Nat) (a0_0 : Int) (a0_1 : ByteArray) (a0_2 : Int) (l1 : List Int) (a2_0 : ByteArray) (a2_1 : Int) (a2_2 : Int) (a2_3 : Int) : Option (Int × ByteArray × Int × Int) := (impl_ychallengeFits.f a0_1 l1 a0_2).bind fun t104 => (if t104 = true then (if a2_1 < 0 then (impl_CheckAnswer.j0 k l1 (decide (a2_1 < 0)) a0_0 a0_1 a0_2 a2_0 a2_1 a2_2 a2_3) else (if a2_1 > 1000000000 then (impl_CheckAnswer.j0 k l1 (decide (a2_1 > 1000000000)) a0_0 a0_1 a0_2 a2_0 a2_1 a2_2 a2_3) else ((impl_ygoodPublic.f k a0_0).bind fun t105 => (impl_CheckAnswer.j0 k l1 (!t105) a0_0 a0_1 a0_2 a2_0 a2_1 a2_2 a2_3)))) else (impl_CheckAnswer.j0 k l1 (!t104) a0_0 a0_1 a0_2 a2_0 a2_1 a2_2 a2_3))
theorem impl_CheckAnswer.mono_l : ∀ k, (∀ y0 y1 y2 y3 y4 y5 y6 y7 y8, LeO (impl_CheckAnswer.j0 k y0 y1 y2 y3 y4 y5 y6 y7 y8) (impl_CheckAnswer.j0 (k + 1) y0 y1 y2 y3 y4 y5 y6 y7 y8))
  | 0 => fun _ _ _ _ _ _ _ _ _ r h => by simp [impl_CheckAnswer.j0] at h
  | k + 1 => by
    have ih0 := impl_CheckAnswer.mono_l k
    · intro y0 y1 y2 y3 y4 y5 y6 y7 y8
      unfold impl_CheckAnswer.j0
      repeat' first
      | (with_reducible exact ih0 _ _ _ _ _ _ _ _ _)
      | (with_reducible exact impl_Verify.mono _ _ _ _ _)
      | (with_reducible exact impl_ygoodPublic.mono _ _)
      | (with_reducible exact LeO.refl _)
      | (with_reducible exact LeO.none _)
      | (with_reducible refine LeO.ite ?_ ?_)
      | (with_reducible refine LeO.bind ?_ (fun _ => ?_))
      | exact ih0 _ _ _ _ _ _ _ _ _
      | exact impl_Verify.mono _ _ _ _ _
      | exact impl_ygoodPublic.mono _ _
      | exact LeO.none _
      | refine LeO.ite ?_ ?_
      | refine LeO.bind ?_ (fun _ => ?_)
theorem impl_CheckAnswer.mono : ∀ a0 a1 a2 a3 a4 a5 a6 a7 k, LeO (impl_CheckAnswer.f k a0 a1 a2 a3 a4 a5 a6 a7) (impl_CheckAnswer.f (k + 1) a0 a1 a2 a3 a4 a5 a6 a7) := by
  intro a0 a1 a2 a3 a4 a5 a6 a7 k
  have ih0 := impl_CheckAnswer.mono_l k
  unfold impl_CheckAnswer.f
  repeat' first
      | (with_reducible exact ih0 _ _ _ _ _ _ _ _ _)
      | (with_reducible exact impl_Verify.mono _ _ _ _ _)
      | (with_reducible exact impl_ygoodPublic.mono _ _)
      | (with_reducible exact LeO.refl _)
      | (with_reducible exact LeO.none _)
      | (with_reducible refine LeO.ite ?_ ?_)
      | (with_reducible refine LeO.bind ?_ (fun _ => ?_))
      | exact ih0 _ _ _ _ _ _ _ _ _
      | exact impl_Verify.mono _ _ _ _ _
      | exact impl_ygoodPublic.mono _ _
      | exact LeO.none _
      | refine LeO.ite ?_ ?_
      | refine LeO.bind ?_ (fun _ => ?_)
def impl_CheckAnswer.T10 : Bool × List (List Nat × List Nat) := (true, [([], []), ([0], [0]), ([], []), ([2], [2]), ([], []), ([], []), ([5], [5]), ([3, 4, 6], [3, 4, 6]), ([], []), ([8], [8]), ([1, 7, 9, 7], [1, 7, 9]), ([10], [10]), ([11, 10], [11])])
def impl_CheckAnswer.B10 : List Nat := [0, 1, 0, 4, 0, 0, 32, 124, 0, 256, 1023, 2047, 4095]
theorem impl_CheckAnswer.tab10 : rtab .any (opsOf Try.f18 10) = impl_CheckAnswer.T10 := by kernel_rfl
theorem impl_CheckAnswer.bits10 : waitsOk impl_CheckAnswer.T10.2 impl_CheckAnswer.B10 = true := by kernel_rfl
set_option maxHeartbeats 8000000 in
set_option maxRecDepth 100000 in
theorem impl_CheckAnswer.calls (k : Nat) (a0_0 : Int) (a0_1 : ByteArray) (a0_2 : Int) (A1 : Option Addr) (c1 : Nat) (l1 : List Int) (a2_0 : ByteArray) (a2_1 : Int) (a2_2 : Int) (a2_3 : Int) (r1 : Int) (r2 : ByteArray) (r3 : Int) (r4 : Int) (w : World) (hr1 : Kd.C (Kd.int .u8) w A1 l1.length l1) (hc1 : l1.length ≤ c1) (h : impl_CheckAnswer.f k a0_0 a0_1 a0_2 l1 a2_0 a2_1 a2_2 a2_3 = some (r1, r2, r3, r4)) :
    Calls Try.prog 18 #[.agg #[.int .i64 a0_0, .string a0_1, .int .i64 a0_2], .slice A1 l1.length c1, .agg #[.string a2_0, .int .i64 a2_1, .int .i64 a2_2, .int .i64 a2_3]] w fun e w' => e = .returned (.tuple #[.agg #[.int .i64 r1, .string r2, .int .i64 r3], .int .i64 r4]) ∧ Below w.heap.size w w' := by
  have hu33 := Try.underlying33
  have hu40 := Try.underlying40
  have hu38 := Try.underlying38
  have HR1 := Aside0.mk hr1
  have HC1 := Aside0.mk hc1
  clear hr1 hc1
  have HB := Aside0.mk (Below.refl w.heap.size w)
  have H : ((impl_ychallengeFits.f a0_1 l1 a0_2).bind fun t104 => (if t104 = true then (if a2_1 < 0 then (impl_CheckAnswer.j0 k l1 (decide (a2_1 < 0)) a0_0 a0_1 a0_2 a2_0 a2_1 a2_2 a2_3) else (if a2_1 > 1000000000 then (impl_CheckAnswer.j0 k l1 (decide (a2_1 > 1000000000)) a0_0 a0_1 a0_2 a2_0 a2_1 a2_2 a2_3) else ((impl_ygoodPublic.f k a0_0).bind fun t105 => (impl_CheckAnswer.j0 k l1 (!t105) a0_0 a0_1 a0_2 a2_0 a2_1 a2_2 a2_3)))) else (impl_CheckAnswer.j0 k l1 (!t104) a0_0 a0_1 a0_2 a2_0 a2_1 a2_2 a2_3))) = some (r1, r2, r3, r4) := h
  clear h
  replace H := Option.bind_eq_some_iff.mp H
  obtain ⟨t104, A40, H⟩ := H
  replace H : (if t104 = true then (if a2_1 < 0 then (impl_CheckAnswer.j0 k l1 (decide (a2_1 < 0)) a0_0 a0_1 a0_2 a2_0 a2_1 a2_2 a2_3) else (if a2_1 > 1000000000 then (impl_CheckAnswer.j0 k l1 (decide (a2_1 > 1000000000)) a0_0 a0_1 a0_2 a2_0 a2_1 a2_2 a2_3) else ((impl_ygoodPublic.f k a0_0).bind fun t105 => (impl_CheckAnswer.j0 k l1 (!t105) a0_0 a0_1 a0_2 a2_0 a2_1 a2_2 a2_3)))) else (impl_CheckAnswer.j0 k l1 (!t104) a0_0 a0_1 a0_2 a2_0 a2_1 a2_2 a2_3)) = some (r1, r2, r3, r4) := H
  have A4 := Aside0.mk A40
  clear A40
  have HC5 := Aside0.mk H
  clear H
  go_enter Try.func18, Try.ntmps18
  go_upto_if 8 with (first | ((with_reducible refine gate_dst (N := 3) rfl ?_); refine box_event ?hg (N := 3) ?hd (cs := #[.int .i64 a0_0, .string a0_1, .int .i64 a0_2]) (t := 33) ?hr ?_; (case hd => rfl); (case hg => rfl); (case hr => first | (go_simp; done) | (go_simp; rfl)); intro gb101 hg w6 hbox hb; have n0_ := Aside0.mk (below_step (by repeat (first | (with_reducible first | exact HB.out | apply below_alloc | apply pw_below_drewN | apply below_drew1) | exact HB.out)) hb); have n1_ := Aside0.mk (hbox); have n2_ := Aside0.mk ((by rw [hg]; exact (below_size (by repeat (first | (with_reducible first | exact HB.out | apply below_alloc | apply pw_below_drewN | apply below_drew1) | exact HB.out))) : w.heap.size ≤ gb101)); have n3_ := Aside0.mk ((by rw [hg]; exact (below_size (by repeat (first | (with_reducible first | exact HB.out | apply below_alloc | apply pw_below_drewN | apply below_drew1) | exact HB.out))) : w.heap.size ≤ gb101)); clear HB; have HB := n0_; have BK101 := n1_; have GW101 := n2_; have GE101 := n3_; clear n0_ n1_ n2_ n3_; clear hb hbox hg) | ((with_reducible refine gate_dst (N := 5) rfl ?_); refine box_event ?hg (N := 5) ?hd (cs := #[.string a2_0, .int .i64 a2_1, .int .i64 a2_2, .int .i64 a2_3]) (t := 40) ?hr ?_; (case hd => rfl); (case hg => rfl); (case hr => first | (go_simp; done) | (go_simp; rfl)); intro gb102 hg w7 hbox hb; have n0_ := Aside0.mk (blk_below (g := gb101) (o := .cells #[.int .i64 a0_0, .string a0_1, .int .i64 a0_2] 33 (0, 0)) (by (with_reducible repeat (first | refine blk_drewN ?_ _ | refine blk_drew ?_ | refine blk_alloc ?_ _)); exact BK101.out) hb); have n1_ := Aside0.mk (below_step (by repeat (first | (with_reducible first | exact HB.out | apply below_alloc | apply pw_below_drewN | apply below_drew1 | refine below_set ?_ GE101.out) | exact HB.out)) hb); have n2_ := Aside0.mk (hbox); have n3_ := Aside0.mk ((by rw [hg]; exact (below_size (by repeat (first | (with_reducible first | exact HB.out | apply below_alloc | apply pw_below_drewN | apply below_drew1 | refine below_set ?_ GE101.out) | exact HB.out))) : w.heap.size ≤ gb102)); have n4_ := Aside0.mk ((by rw [hg]; exact (below_size (by repeat (first | (with_reducible first | exact HB.out | apply below_alloc | apply pw_below_drewN | apply below_drew1 | refine below_set ?_ GE101.out) | exact HB.out))) : w.heap.size ≤ gb102)); have n5_ := Aside0.mk ((by rw [hg]; exact Nat.ne_of_lt (blk_lt (g := gb101) (o := .cells #[.int .i64 a0_0, .string a0_1, .int .i64 a0_2] 33 (0, 0)) (by (with_reducible repeat (first | refine blk_drewN ?_ _ | refine blk_drew ?_ | refine blk_alloc ?_ _)); exact BK101.out)) : gb101 ≠ gb102)); have n6_ := Aside0.mk ((by rw [hg]; exact Nat.ne_of_gt (blk_lt (g := gb101) (o := .cells #[.int .i64 a0_0, .string a0_1, .int .i64 a0_2] 33 (0, 0)) (by (with_reducible repeat (first | refine blk_drewN ?_ _ | refine blk_drew ?_ | refine blk_alloc ?_ _)); exact BK101.out)) : gb102 ≠ gb101)); clear BK101; clear HB; have BK101 := n0_; have HB := n1_; have BK102 := n2_; have GW102 := n3_; have GE102 := n4_; have NB101_102 := n5_; have NB102_101 := n6_; clear n0_ n1_ n2_ n3_ n4_ n5_ n6_; clear hb hbox hg) | ((with_reducible refine gate_dst (N := 6) rfl ?_); refine box_event ?hg (N := 6) ?hd (cs := #[.int .i64 0, .string (⟨#[]⟩ : ByteArray), .int .i64 0]) (t := 33) ?hr ?_; (case hd => rfl); (case hg => rfl); (case hr => first | (go_simp; done) | (go_simp; rfl)); intro gb103 hg w8 hbox hb; have n0_ := Aside0.mk (blk_below (g := gb101) (o := .cells #[.int .i64 a0_0, .string a0_1, .int .i64 a0_2] 33 (0, 0)) (by (with_reducible repeat (first | refine blk_drewN ?_ _ | refine blk_drew ?_ | refine blk_alloc ?_ _)); exact BK101.out) hb); have n1_ := Aside0.mk (blk_below (g := gb102) (o := .cells #[.string a2_0, .int .i64 a2_1, .int .i64 a2_2, .int .i64 a2_3] 40 (0, 0)) (by (with_reducible repeat (first | refine blk_drewN ?_ _ | refine blk_drew ?_ | refine blk_alloc ?_ _)); exact BK102.out) hb); have n2_ := Aside0.mk (below_step (by repeat (first | (with_reducible first | exact HB.out | apply below_alloc | apply pw_below_drewN | apply below_drew1 | refine below_set ?_ GE101.out | refine below_set ?_ GE102.out) | exact HB.out)) hb); have n3_ := Aside0.mk (hbox); have n4_ := Aside0.mk ((by rw [hg]; exact (below_size (by repeat (first | (with_reducible first | exact HB.out | apply below_alloc | apply pw_below_drewN | apply below_drew1 | refine below_set ?_ GE101.out | refine below_set ?_ GE102.out) | exact HB.out))) : w.heap.size ≤ gb103)); have n5_ := Aside0.mk ((by rw [hg]; exact (below_size (by repeat (first | (with_reducible first | exact HB.out | apply below_alloc | apply pw_below_drewN | apply below_drew1 | refine below_set ?_ GE101.out | refine below_set ?_ GE102.out) | exact HB.out))) : w.heap.size ≤ gb103)); have n6_ := Aside0.mk ((by rw [hg]; exact Nat.ne_of_lt (blk_lt (g := gb101) (o := .cells #[.int .i64 a0_0, .string a0_1, .int .i64 a0_2] 33 (0, 0)) (by (with_reducible repeat (first | refine blk_drewN ?_ _ | refine blk_drew ?_ | refine blk_alloc ?_ _)); exact BK101.out)) : gb101 ≠ gb103)); have n7_ := Aside0.mk ((by rw [hg]; exact Nat.ne_of_gt (blk_lt (g := gb101) (o := .cells #[.int .i64 a0_0, .string a0_1, .int .i64 a0_2] 33 (0, 0)) (by (with_reducible repeat (first | refine blk_drewN ?_ _ | refine blk_drew ?_ | refine blk_alloc ?_ _)); exact BK101.out)) : gb103 ≠ gb101)); have n8_ := Aside0.mk ((by rw [hg]; exact Nat.ne_of_lt (blk_lt (g := gb102) (o := .cells #[.string a2_0, .int .i64 a2_1, .int .i64 a2_2, .int .i64 a2_3] 40 (0, 0)) (by (with_reducible repeat (first | refine blk_drewN ?_ _ | refine blk_drew ?_ | refine blk_alloc ?_ _)); exact BK102.out)) : gb102 ≠ gb103)); have n9_ := Aside0.mk ((by rw [hg]; exact Nat.ne_of_gt (blk_lt (g := gb102) (o := .cells #[.string a2_0, .int .i64 a2_1, .int .i64 a2_2, .int .i64 a2_3] 40 (0, 0)) (by (with_reducible repeat (first | refine blk_drewN ?_ _ | refine blk_drew ?_ | refine blk_alloc ?_ _)); exact BK102.out)) : gb103 ≠ gb102)); clear BK101; clear BK102; clear HB; have BK101 := n0_; have BK102 := n1_; have HB := n2_; have BK103 := n3_; have GW103 := n4_; have GE103 := n5_; have NB101_103 := n6_; have NB103_101 := n7_; have NB102_103 := n8_; have NB103_102 := n9_; clear n0_ n1_ n2_ n3_ n4_ n5_ n6_ n7_ n8_ n9_; clear hb hbox hg; have hnb9 := NB101_102.out; have hnc9 := NB102_101.out; have hnb10 := NB101_103.out; have hnc10 := NB103_101.out; have hcz11_0 : w8.cell? ⟨gb101, 0, none⟩ = some (.int .i64 a0_0) := (blk_cell BK101.out 0).trans rfl; have hcz11_1 : w8.cell? ⟨gb101, 1, none⟩ = some (.string a0_1) := (blk_cell BK101.out 1).trans rfl; have hcz11_2 : w8.cell? ⟨gb101, 2, none⟩ = some (.int .i64 a0_2) := (blk_cell BK101.out 2).trans rfl; have hfz11_0 := blk_frozen BK101.out 0; have hfz11_1 := blk_frozen BK101.out 1; have hfz11_2 := blk_frozen BK101.out 2) | ((with_reducible refine gate_callee (f := 65) rfl ?_); refine goesL_ (some 14) rfl rfl Try.func65 (by kernel_rfl) rfl #[.string a0_1, .slice A1 l1.length c1, .int .i64 a0_2] rfl (by (try simp only [List.map_toArray, List.map_cons, List.map_nil]); first | done | rfl | (simp only [List.length_drop, List.length_take]; rfl)) ?_; (with_reducible refine (impl_ychallengeFits.calls a0_1 _ _ l1 a0_2 t104 _ ?side1 ?side2 A4.out).mono ?_); (case side1 => repeat (first | exact (Kd.C_below HR1.out HB.out) | (with_reducible refine Kd.C_alloc ?_ _) | (with_reducible refine Kd.C_drewN ?_ _) | (with_reducible refine Kd.C_drew ?_))); (case side2 => exact HC1.out); rintro e w' ⟨rfl, ⟨nd, rfl⟩⟩; refine ⟨_, rfl, ?_⟩))
  (try simp only [Act.put, List.setIfInBounds_toArray, List.set_cons_zero, List.set_cons_succ])
  go_cut [8] (fun v8 wc => ∃ (kq : Nat) (x8_4 : Bool), v8 = .bool x8_4 ∧ Aside0 (impl_CheckAnswer.j0 kq l1 x8_4 a0_0 a0_1 a0_2 a2_0 a2_1 a2_2 a2_3 = some (r1, r2, r3, r4)) ∧ Aside0 (kq ≤ k) ∧ Aside0 (wc.heap[gb101]? = some (.cells #[.int .i64 a0_0, .string a0_1, .int .i64 a0_2] 33 (0, 0))) ∧ Aside0 (wc.heap[gb102]? = some (.cells #[.string a2_0, .int .i64 a2_1, .int .i64 a2_2, .int .i64 a2_3] 40 (0, 0))) ∧ Aside0 (wc.heap[gb103]? = some (.cells #[.int .i64 0, .string (⟨#[]⟩ : ByteArray), .int .i64 0] 33 (0, 0))) ∧ Aside0 (Below w.heap.size w wc))
  case first =>
    have H := HC5.out
    clear HC5
    by_cases c12 : t104 = true
    · subst c12
      have H1 : (if a2_1 < 0 then (impl_CheckAnswer.j0 k l1 (decide (a2_1 < 0)) a0_0 a0_1 a0_2 a2_0 a2_1 a2_2 a2_3) else (if a2_1 > 1000000000 then (impl_CheckAnswer.j0 k l1 (decide (a2_1 > 1000000000)) a0_0 a0_1 a0_2 a2_0 a2_1 a2_2 a2_3) else ((impl_ygoodPublic.f k a0_0).bind fun t105 => (impl_CheckAnswer.j0 k l1 (!t105) a0_0 a0_1 a0_2 a2_0 a2_1 a2_2 a2_3)))) = some (r1, r2, r3, r4) := by rw [if_pos rfl] at H; exact H
      clear H
      have H := H1
      clear H1
      by_cases c13 : a2_1 < 0
      · rw [if_pos c13] at H
        have c13b0 : decide (a2_1 < 0) = true := decide_eq_true c13
        clear c13
        (first | rw [c13b0] | (simp only [i64_w, i32_w]; rw [c13b0]) | skip)
        have H' := Aside0.mk H
        clear H
        have hnb14 := NB102_101.out
        have hnc14 := NB101_102.out
        have hnb15 := NB102_103.out
        have hnc15 := NB103_102.out
        have hcz16_0 : w8.cell? ⟨gb102, 0, none⟩ = some (.string a2_0) := (blk_cell BK102.out 0).trans rfl
        have hcz16_1 : w8.cell? ⟨gb102, 1, none⟩ = some (.int .i64 a2_1) := (blk_cell BK102.out 1).trans rfl
        have hcz16_2 : w8.cell? ⟨gb102, 2, none⟩ = some (.int .i64 a2_2) := (blk_cell BK102.out 2).trans rfl
        have hcz16_3 : w8.cell? ⟨gb102, 3, none⟩ = some (.int .i64 a2_3) := (blk_cell BK102.out 3).trans rfl
        have hfz16_0 := blk_frozen BK102.out 0
        have hfz16_1 := blk_frozen BK102.out 1
        have hfz16_2 := blk_frozen BK102.out 2
        have hfz16_3 := blk_frozen BK102.out 3
        go_wp2
        go_meet
        case rel => exact ⟨_, (decide (a2_1 < 0)), (by first | rfl | (simp; done) | (simp [*]; done)), H', ⟨by first | omega | exact Nat.le_refl _⟩, ⟨by (with_reducible repeat (first | refine blk_drewN ?_ _ | refine blk_drew ?_ | refine blk_alloc ?_ _)); exact BK101.out⟩, ⟨by (with_reducible repeat (first | refine blk_drewN ?_ _ | refine blk_drew ?_ | refine blk_alloc ?_ _)); exact BK102.out⟩, ⟨by (with_reducible repeat (first | refine blk_drewN ?_ _ | refine blk_drew ?_ | refine blk_alloc ?_ _)); exact BK103.out⟩, ⟨by repeat (first | (with_reducible first | exact HB.out | apply below_alloc | apply pw_below_drewN | apply below_drew1 | refine below_set ?_ GE101.out | refine below_set ?_ GE102.out | refine below_set ?_ GE103.out) | exact HB.out)⟩⟩
      · rw [if_neg c13] at H
        have c13b0 : decide (a2_1 < 0) = false := decide_eq_false c13
        clear c13
        (first | rw [c13b0] | (simp only [i64_w, i32_w]; rw [c13b0]) | skip)
        by_cases c17 : a2_1 > 1000000000
        · rw [if_pos c17] at H
          have c17b0 : decide (1000000000 < a2_1) = true := decide_eq_true c17
          clear c17
          have H' := Aside0.mk H
          clear H
          have hnb18 := NB102_101.out
          have hnc18 := NB101_102.out
          have hnb19 := NB102_103.out
          have hnc19 := NB103_102.out
          have hcz20_0 : w8.cell? ⟨gb102, 0, none⟩ = some (.string a2_0) := (blk_cell BK102.out 0).trans rfl
          have hcz20_1 : w8.cell? ⟨gb102, 1, none⟩ = some (.int .i64 a2_1) := (blk_cell BK102.out 1).trans rfl
          have hcz20_2 : w8.cell? ⟨gb102, 2, none⟩ = some (.int .i64 a2_2) := (blk_cell BK102.out 2).trans rfl
          have hcz20_3 : w8.cell? ⟨gb102, 3, none⟩ = some (.int .i64 a2_3) := (blk_cell BK102.out 3).trans rfl
          have hfz20_0 := blk_frozen BK102.out 0
          have hfz20_1 := blk_frozen BK102.out 1
          have hfz20_2 := blk_frozen BK102.out 2
          have hfz20_3 := blk_frozen BK102.out 3
          go_wp2
          go_meet
          case rel => exact ⟨_, (decide (a2_1 > 1000000000)), (by first | rfl | (simp; done) | (simp [*]; done)), H', ⟨by first | omega | exact Nat.le_refl _⟩, ⟨by (with_reducible repeat (first | refine blk_drewN ?_ _ | refine blk_drew ?_ | refine blk_alloc ?_ _)); exact BK101.out⟩, ⟨by (with_reducible repeat (first | refine blk_drewN ?_ _ | refine blk_drew ?_ | refine blk_alloc ?_ _)); exact BK102.out⟩, ⟨by (with_reducible repeat (first | refine blk_drewN ?_ _ | refine blk_drew ?_ | refine blk_alloc ?_ _)); exact BK103.out⟩, ⟨by repeat (first | (with_reducible first | exact HB.out | apply below_alloc | apply pw_below_drewN | apply below_drew1 | refine below_set ?_ GE101.out | refine below_set ?_ GE102.out | refine below_set ?_ GE103.out) | exact HB.out)⟩⟩
        · rw [if_neg c17] at H
          have c17b0 : decide (1000000000 < a2_1) = false := decide_eq_false c17
          clear c17
          replace H := Option.bind_eq_some_iff.mp H
          obtain ⟨t105, A210, H⟩ := H
          replace H : (impl_CheckAnswer.j0 k l1 (!t105) a0_0 a0_1 a0_2 a2_0 a2_1 a2_2 a2_3) = some (r1, r2, r3, r4) := H
          have A21 := Aside0.mk A210
          clear A210
          have H' := Aside0.mk H
          clear H
          have hnb22 := NB102_101.out
          have hnc22 := NB101_102.out
          have hnb23 := NB102_103.out
          have hnc23 := NB103_102.out
          have hcz24_0 : w8.cell? ⟨gb102, 0, none⟩ = some (.string a2_0) := (blk_cell BK102.out 0).trans rfl
          have hcz24_1 : w8.cell? ⟨gb102, 1, none⟩ = some (.int .i64 a2_1) := (blk_cell BK102.out 1).trans rfl
          have hcz24_2 : w8.cell? ⟨gb102, 2, none⟩ = some (.int .i64 a2_2) := (blk_cell BK102.out 2).trans rfl
          have hcz24_3 : w8.cell? ⟨gb102, 3, none⟩ = some (.int .i64 a2_3) := (blk_cell BK102.out 3).trans rfl
          have hfz24_0 := blk_frozen BK102.out 0
          have hfz24_1 := blk_frozen BK102.out 1
          have hfz24_2 := blk_frozen BK102.out 2
          have hfz24_3 := blk_frozen BK102.out 3
          have hnb25 := NB101_103.out
          have hnc25 := NB103_101.out
          have hcz26_0 : w8.cell? ⟨gb101, 0, none⟩ = some (.int .i64 a0_0) := (blk_cell BK101.out 0).trans rfl
          have hcz26_1 : w8.cell? ⟨gb101, 1, none⟩ = some (.string a0_1) := (blk_cell BK101.out 1).trans rfl
          have hcz26_2 : w8.cell? ⟨gb101, 2, none⟩ = some (.int .i64 a0_2) := (blk_cell BK101.out 2).trans rfl
          have hfz26_0 := blk_frozen BK101.out 0
          have hfz26_1 := blk_frozen BK101.out 1
          have hfz26_2 := blk_frozen BK101.out 2
          go_wp2_with (first | ((with_reducible refine gate_callee (f := 66) rfl ?_); refine goesL_ (some 24) rfl rfl Try.func66 (by kernel_rfl) rfl #[.int .i64 a0_0] rfl (by (try simp only [List.map_toArray, List.map_cons, List.map_nil]); first | done | rfl | (simp only [List.length_drop, List.length_take]; rfl)) ?_; (with_reducible refine (impl_ygoodPublic.calls k a0_0 t105 _ A21.out).mono ?_); rintro e w' ⟨rfl, ⟨nd, rfl⟩⟩; refine ⟨_, rfl, ?_⟩))
          go_meet
          case rel => exact ⟨_, (!t105), (by first | rfl | (simp; done) | (simp [*]; done)), H', ⟨by first | omega | exact Nat.le_refl _⟩, ⟨by (with_reducible repeat (first | refine blk_drewN ?_ _ | refine blk_drew ?_ | refine blk_alloc ?_ _)); exact BK101.out⟩, ⟨by (with_reducible repeat (first | refine blk_drewN ?_ _ | refine blk_drew ?_ | refine blk_alloc ?_ _)); exact BK102.out⟩, ⟨by (with_reducible repeat (first | refine blk_drewN ?_ _ | refine blk_drew ?_ | refine blk_alloc ?_ _)); exact BK103.out⟩, ⟨by repeat (first | (with_reducible first | exact HB.out | apply below_alloc | apply pw_below_drewN | apply below_drew1 | refine below_set ?_ GE101.out | refine below_set ?_ GE102.out | refine below_set ?_ GE103.out) | exact HB.out)⟩⟩
    · replace c12 := Bool.eq_false_iff.mpr c12
      subst c12
      have H1 : (impl_CheckAnswer.j0 k l1 (!false) a0_0 a0_1 a0_2 a2_0 a2_1 a2_2 a2_3) = some (r1, r2, r3, r4) := by rw [if_neg (show ¬ (false = true) by decide)] at H; exact H
      clear H
      have H := H1
      clear H1
      have H' := Aside0.mk H
      clear H
      go_wp2
      go_meet
      case rel => exact ⟨_, (!false), (by first | rfl | (simp; done) | (simp [*]; done)), H', ⟨by first | omega | exact Nat.le_refl _⟩, ⟨by (with_reducible repeat (first | refine blk_drewN ?_ _ | refine blk_drew ?_ | refine blk_alloc ?_ _)); exact BK101.out⟩, ⟨by (with_reducible repeat (first | refine blk_drewN ?_ _ | refine blk_drew ?_ | refine blk_alloc ?_ _)); exact BK102.out⟩, ⟨by (with_reducible repeat (first | refine blk_drewN ?_ _ | refine blk_drew ?_ | refine blk_alloc ?_ _)); exact BK103.out⟩, ⟨by repeat (first | (with_reducible first | exact HB.out | apply below_alloc | apply pw_below_drewN | apply below_drew1 | refine below_set ?_ GE101.out | refine below_set ?_ GE102.out | refine below_set ?_ GE103.out) | exact HB.out)⟩⟩
  case rest =>
    clear HC5
    try clear c1
    try clear c2
    try clear p2
    try clear c6
    try clear c9
    try clear c10
    try clear c12
    try clear c13
    try clear c13b0
    try clear c14
    try clear c15
    try clear c17
    try clear c17b0
    try clear c18
    try clear c19
    try clear c22
    try clear c23
    try clear c25
    try clear hcz11_0
    try clear hcz11_1
    try clear hcz11_2
    try clear hcz16_0
    try clear hcz16_1
    try clear hcz16_2
    try clear hcz16_3
    try clear hcz20_0
    try clear hcz20_1
    try clear hcz20_2
    try clear hcz20_3
    try clear hcz24_0
    try clear hcz24_1
    try clear hcz24_2
    try clear hcz24_3
    try clear hcz26_0
    try clear hcz26_1
    try clear hcz26_2
    try clear hfz11_0
    try clear hfz11_1
    try clear hfz11_2
    try clear hfz16_0
    try clear hfz16_1
    try clear hfz16_2
    try clear hfz16_3
    try clear hfz20_0
    try clear hfz20_1
    try clear hfz20_2
    try clear hfz20_3
    try clear hfz24_0
    try clear hfz24_1
    try clear hfz24_2
    try clear hfz24_3
    try clear hfz26_0
    try clear hfz26_1
    try clear hfz26_2
    obtain ⟨kq, x8_4, rfl, HA, HJ4, BK101, BK102, BK103, HB⟩ := hcut
    cases kq with
    | zero => exact absurd HA.out (by simp [impl_CheckAnswer.j0])
    | succ kj4 =>
      have H := HA.out
      clear HA
      simp only [impl_CheckAnswer.j0] at H
      by_cases c27 : x8_4 = true
      · subst c27
        have H1 : (some (0, (⟨#[]⟩ : ByteArray), 0, 1)) = some (r1, r2, r3, r4) := by rw [if_pos rfl] at H; exact H
        clear H
        have H := H1
        clear H1
        simp only [Option.some.injEq, Prod.mk.injEq] at H
        obtain ⟨rfl, rfl, rfl, rfl⟩ := H
        have hnb28 := NB103_101.out
        have hnc28 := NB101_103.out
        have hnb29 := NB103_102.out
        have hnc29 := NB102_103.out
        have hcz30_0 : wc.cell? ⟨gb103, 0, none⟩ = some (.int .i64 0) := (blk_cell BK103.out 0).trans rfl
        have hcz30_1 : wc.cell? ⟨gb103, 1, none⟩ = some (.string (⟨#[]⟩ : ByteArray)) := (blk_cell BK103.out 1).trans rfl
        have hcz30_2 : wc.cell? ⟨gb103, 2, none⟩ = some (.int .i64 0) := (blk_cell BK103.out 2).trans rfl
        have hfz30_0 := blk_frozen BK103.out 0
        have hfz30_1 := blk_frozen BK103.out 1
        have hfz30_2 := blk_frozen BK103.out 2
        go_wp2
        refine bodyPost_ret (results_ct rfl _ _ gb103 33 #[.int .i64 0, .string (⟨#[]⟩ : ByteArray), .int .i64 0] (0, 0) _ rfl (by (with_reducible repeat (first | refine blk_drewN ?_ _ | refine blk_drew ?_ | refine blk_alloc ?_ _)); refine blk_put (cs := #[.int .i64 0, .string (⟨#[]⟩ : ByteArray), .int .i64 0]) ?_ 2 _ rfl; (with_reducible repeat (first | refine blk_drewN ?_ _ | refine blk_drew ?_ | refine blk_alloc ?_ _)); refine blk_put (cs := #[.int .i64 0, .string (⟨#[]⟩ : ByteArray), .int .i64 0]) ?_ 1 _ rfl; (with_reducible repeat (first | refine blk_drewN ?_ _ | refine blk_drew ?_ | refine blk_alloc ?_ _)); refine blk_put (cs := #[.int .i64 0, .string (⟨#[]⟩ : ByteArray), .int .i64 0]) ?_ 0 _ rfl; (with_reducible repeat (first | refine blk_drewN ?_ _ | refine blk_drew ?_ | refine blk_alloc ?_ _)); exact BK103.out) Try.underlying33 rfl (by kernel_rfl)) rfl ?_
        exact ⟨by first | rfl | (simp [errW_none, errW_some] <;> rfl) | (simp [*, errW_none, errW_some] <;> rfl), by repeat (first | (with_reducible first | exact HB.out | apply below_alloc | apply pw_below_drewN | apply below_drew1 | refine below_set ?_ GE101.out | refine below_set ?_ GE102.out | refine below_set ?_ GE103.out) | exact HB.out)⟩
      · replace c27 := Bool.eq_false_iff.mpr c27
        subst c27
        have H1 : (if a2_0.toList = a0_1.toList then (if a2_1 ≤ a0_2 then (some (0, (⟨#[]⟩ : ByteArray), 0, 3)) else ((impl_yanswerBytes.f a2_0 l1 a2_1).bind fun t106 => ((impl_Verify.f kj4 a0_0 t106 a2_2 a2_3).bind fun t109 => (if t109 = true then (some (a0_0, a0_1, a2_1, 0)) else (some (0, (⟨#[]⟩ : ByteArray), 0, 4)))))) else (some (0, (⟨#[]⟩ : ByteArray), 0, 2))) = some (r1, r2, r3, r4) := by rw [if_neg (show ¬ (false = true) by decide)] at H; exact H
        clear H
        have H := H1
        clear H1
        by_cases c31 : a2_0.toList = a0_1.toList
        · rw [if_pos c31] at H
          have c31b0 : (a2_0.toList == a0_1.toList) = true := beq_iff_eq.mpr c31
          have c31b1 : (a2_0.toList != a0_1.toList) = false := bne_eq_false_iff_eq.mpr c31
          clear c31
          by_cases c32 : a2_1 ≤ a0_2
          · rw [if_pos c32] at H
            have c32b0 : decide (a2_1 ≤ a0_2) = true := decide_eq_true c32
            clear c32
            simp only [Option.some.injEq, Prod.mk.injEq] at H
            obtain ⟨rfl, rfl, rfl, rfl⟩ := H
            have hnb33 := NB102_101.out
            have hnc33 := NB101_102.out
            have hnb34 := NB102_103.out
            have hnc34 := NB103_102.out
            have hcz35_0 : wc.cell? ⟨gb102, 0, none⟩ = some (.string a2_0) := (blk_cell BK102.out 0).trans rfl
            have hcz35_1 : wc.cell? ⟨gb102, 1, none⟩ = some (.int .i64 a2_1) := (blk_cell BK102.out 1).trans rfl
            have hcz35_2 : wc.cell? ⟨gb102, 2, none⟩ = some (.int .i64 a2_2) := (blk_cell BK102.out 2).trans rfl
            have hcz35_3 : wc.cell? ⟨gb102, 3, none⟩ = some (.int .i64 a2_3) := (blk_cell BK102.out 3).trans rfl
            have hfz35_0 := blk_frozen BK102.out 0
            have hfz35_1 := blk_frozen BK102.out 1
            have hfz35_2 := blk_frozen BK102.out 2
            have hfz35_3 := blk_frozen BK102.out 3
            have hnb36 := NB101_103.out
            have hnc36 := NB103_101.out
            have hcz37_0 : wc.cell? ⟨gb101, 0, none⟩ = some (.int .i64 a0_0) := (blk_cell BK101.out 0).trans rfl
            have hcz37_1 : wc.cell? ⟨gb101, 1, none⟩ = some (.string a0_1) := (blk_cell BK101.out 1).trans rfl
            have hcz37_2 : wc.cell? ⟨gb101, 2, none⟩ = some (.int .i64 a0_2) := (blk_cell BK101.out 2).trans rfl
            have hfz37_0 := blk_frozen BK101.out 0
            have hfz37_1 := blk_frozen BK101.out 1
            have hfz37_2 := blk_frozen BK101.out 2
            have hcz38_0 : wc.cell? ⟨gb103, 0, none⟩ = some (.int .i64 0) := (blk_cell BK103.out 0).trans rfl
            have hcz38_1 : wc.cell? ⟨gb103, 1, none⟩ = some (.string (⟨#[]⟩ : ByteArray)) := (blk_cell BK103.out 1).trans rfl
            have hcz38_2 : wc.cell? ⟨gb103, 2, none⟩ = some (.int .i64 0) := (blk_cell BK103.out 2).trans rfl
            have hfz38_0 := blk_frozen BK103.out 0
            have hfz38_1 := blk_frozen BK103.out 1
            have hfz38_2 := blk_frozen BK103.out 2
            go_wp2
            refine bodyPost_ret (results_ct rfl _ _ gb103 33 #[.int .i64 0, .string (⟨#[]⟩ : ByteArray), .int .i64 0] (0, 0) _ rfl (by (with_reducible repeat (first | refine blk_drewN ?_ _ | refine blk_drew ?_ | refine blk_alloc ?_ _)); refine blk_put (cs := #[.int .i64 0, .string (⟨#[]⟩ : ByteArray), .int .i64 0]) ?_ 2 _ rfl; (with_reducible repeat (first | refine blk_drewN ?_ _ | refine blk_drew ?_ | refine blk_alloc ?_ _)); refine blk_put (cs := #[.int .i64 0, .string (⟨#[]⟩ : ByteArray), .int .i64 0]) ?_ 1 _ rfl; (with_reducible repeat (first | refine blk_drewN ?_ _ | refine blk_drew ?_ | refine blk_alloc ?_ _)); refine blk_put (cs := #[.int .i64 0, .string (⟨#[]⟩ : ByteArray), .int .i64 0]) ?_ 0 _ rfl; (with_reducible repeat (first | refine blk_drewN ?_ _ | refine blk_drew ?_ | refine blk_alloc ?_ _)); exact BK103.out) Try.underlying33 rfl (by kernel_rfl)) rfl ?_
            exact ⟨by first | rfl | (simp [errW_none, errW_some] <;> rfl) | (simp [*, errW_none, errW_some] <;> rfl), by repeat (first | (with_reducible first | exact HB.out | apply below_alloc | apply pw_below_drewN | apply below_drew1 | refine below_set ?_ GE101.out | refine below_set ?_ GE102.out | refine below_set ?_ GE103.out) | exact HB.out)⟩
          · rw [if_neg c32] at H
            have c32b0 : decide (a2_1 ≤ a0_2) = false := decide_eq_false c32
            clear c32
            replace H := Option.bind_eq_some_iff.mp H
            obtain ⟨t106, A390, H⟩ := H
            replace H : ((impl_Verify.f kj4 a0_0 t106 a2_2 a2_3).bind fun t109 => (if t109 = true then (some (a0_0, a0_1, a2_1, 0)) else (some (0, (⟨#[]⟩ : ByteArray), 0, 4)))) = some (r1, r2, r3, r4) := H
            have A39 := Aside0.mk A390
            clear A390
            replace H := Option.bind_eq_some_iff.mp H
            obtain ⟨t109, A400, H⟩ := H
            replace H : (if t109 = true then (some (a0_0, a0_1, a2_1, 0)) else (some (0, (⟨#[]⟩ : ByteArray), 0, 4))) = some (r1, r2, r3, r4) := H
            have A40 := Aside0.mk A400
            clear A400
            by_cases c41 : t109 = true
            · subst c41
              have H1 : (some (a0_0, a0_1, a2_1, 0)) = some (r1, r2, r3, r4) := by rw [if_pos rfl] at H; exact H
              clear H
              have H := H1
              clear H1
              simp only [Option.some.injEq, Prod.mk.injEq] at H
              obtain ⟨rfl, rfl, rfl, rfl⟩ := H
              have hnb42 := NB102_101.out
              have hnc42 := NB101_102.out
              have hnb43 := NB102_103.out
              have hnc43 := NB103_102.out
              have hcz44_0 : wc.cell? ⟨gb102, 0, none⟩ = some (.string a2_0) := (blk_cell BK102.out 0).trans rfl
              have hcz44_1 : wc.cell? ⟨gb102, 1, none⟩ = some (.int .i64 a2_1) := (blk_cell BK102.out 1).trans rfl
              have hcz44_2 : wc.cell? ⟨gb102, 2, none⟩ = some (.int .i64 a2_2) := (blk_cell BK102.out 2).trans rfl
              have hcz44_3 : wc.cell? ⟨gb102, 3, none⟩ = some (.int .i64 a2_3) := (blk_cell BK102.out 3).trans rfl
              have hfz44_0 := blk_frozen BK102.out 0
              have hfz44_1 := blk_frozen BK102.out 1
              have hfz44_2 := blk_frozen BK102.out 2
              have hfz44_3 := blk_frozen BK102.out 3
              have hnb45 := NB101_103.out
              have hnc45 := NB103_101.out
              have hcz46_0 : wc.cell? ⟨gb101, 0, none⟩ = some (.int .i64 a0_0) := (blk_cell BK101.out 0).trans rfl
              have hcz46_1 : wc.cell? ⟨gb101, 1, none⟩ = some (.string a0_1) := (blk_cell BK101.out 1).trans rfl
              have hcz46_2 : wc.cell? ⟨gb101, 2, none⟩ = some (.int .i64 a0_2) := (blk_cell BK101.out 2).trans rfl
              have hfz46_0 := blk_frozen BK101.out 0
              have hfz46_1 := blk_frozen BK101.out 1
              have hfz46_2 := blk_frozen BK101.out 2
              try go_wp2
              have n0_ := Aside0.mk (blk_drew BK101.out)
              have n1_ := Aside0.mk (blk_drew BK102.out)
              have n2_ := Aside0.mk (blk_drew BK103.out)
              have n3_ := Aside0.mk (below_drew1 HB.out)
              clear BK101
              clear BK102
              clear BK103
              clear HB
              have BK101 := n0_
              have BK102 := n1_
              have BK103 := n2_
              have HB := n3_
              clear n0_ n1_ n2_ n3_
              refine start_ (n := 13) (S := fun w' => w'.cell? ⟨gb101, 0, none⟩ = some (.int .i64 a0_0) ∧ w'.cell? ⟨gb101, 1, none⟩ = some (.string a0_1) ∧ w'.cell? ⟨gb101, 2, none⟩ = some (.int .i64 a0_2) ∧ w'.cell? ⟨gb102, 0, none⟩ = some (.string a2_0) ∧ w'.cell? ⟨gb102, 1, none⟩ = some (.int .i64 a2_1) ∧ w'.cell? ⟨gb102, 2, none⟩ = some (.int .i64 a2_2) ∧ w'.cell? ⟨gb102, 3, none⟩ = some (.int .i64 a2_3)) (ds := []) #[false, false, false, false, false, false, false, false, false, false, false, false, false] (by kernel_rfl) rfl rfl ⟨(blk_cell BK101.out 0).trans rfl, (blk_cell BK101.out 1).trans rfl, (blk_cell BK101.out 2).trans rfl, (blk_cell BK102.out 0).trans rfl, (blk_cell BK102.out 1).trans rfl, (blk_cell BK102.out 2).trans rfl, (blk_cell BK102.out 3).trans rfl⟩ (fun hHeld => ?_); refine with_tabW impl_CheckAnswer.tab10 impl_CheckAnswer.bits10 (fun HT_ HW_ => ?_)
              generalize wc.drew = w47 at BK101 BK102 BK103 HB hHeld ⊢
              refine pure_ (i := 0) (N := some 42) (v := ?_) (a' := ?_) #[true, false, false, false, false, false, false, false, false, false, false, false, false] rfl rfl (any_of HT_.out (by kernel_rfl)) (fun _ _ _ h => h) (Or.inl ⟨by rfl, ?_⟩) ?_ ?_
              rotate_left
              · intro w'
                go_simp
                with_reducible rfl
              rotate_left
              · simp only [Act.put, List.setIfInBounds_toArray, List.set_cons_zero, List.set_cons_succ, i64_w, i32_w]
                rfl
              refine pure_ (i := 2) (N := some 44) (v := ?_) (a' := ?_) #[true, false, true, false, false, false, false, false, false, false, false, false, false] rfl rfl (any_of HT_.out (by kernel_rfl)) (fun _ _ _ h => h) (Or.inl ⟨by rfl, ?_⟩) ?_ ?_
              rotate_left
              · intro w'
                go_simp
                with_reducible rfl
              rotate_left
              · simp only [Act.put, List.setIfInBounds_toArray, List.set_cons_zero, List.set_cons_succ, i64_w, i32_w]
                rfl
              refine pure_ (i := 4) (N := some 46) (v := ?_) (a' := ?_) #[true, false, true, false, true, false, false, false, false, false, false, false, false] rfl rfl (any_of HT_.out (by kernel_rfl)) (fun _ _ _ h => h) (Or.inl ⟨by rfl, ?_⟩) ?_ ?_
              rotate_left
              · intro w'
                go_simp
                with_reducible rfl
              rotate_left
              · simp only [Act.put, List.setIfInBounds_toArray, List.set_cons_zero, List.set_cons_succ, i64_w, i32_w]
                rfl
              refine pure_ (i := 5) (N := some 47) (v := ?_) (a' := ?_) #[true, false, true, false, true, true, false, false, false, false, false, false, false] rfl rfl (any_of HT_.out (by kernel_rfl)) (fun _ _ _ h => h) (Or.inl ⟨by rfl, ?_⟩) ?_ ?_
              rotate_left
              · intro w'
                go_simp
                with_reducible rfl
              rotate_left
              · simp only [Act.put, List.setIfInBounds_toArray, List.set_cons_zero, List.set_cons_succ, i64_w, i32_w]
                rfl
              refine pure_ (i := 8) (N := some 50) (v := ?_) (a' := ?_) #[true, false, true, false, true, true, false, false, true, false, false, false, false] rfl rfl (any_of HT_.out (by kernel_rfl)) (fun _ _ _ h => h) (Or.inl ⟨by rfl, ?_⟩) ?_ ?_
              rotate_left
              · intro w'
                go_simp
                with_reducible rfl
              rotate_left
              · simp only [Act.put, List.setIfInBounds_toArray, List.set_cons_zero, List.set_cons_succ, i64_w, i32_w]
                rfl
              refine take_ (i := 1) (N := some 43) (v := ?_) (a' := ?_) #[true, true, true, false, true, true, false, false, true, false, false, false, false] rfl rfl (take_ofW HT_.out HW_.out (by kernel_rfl)) (fun _ _ _ h => h) (Or.inl ⟨by rfl, ?_⟩) hHeld ?_ ?_
              rotate_left
              · rintro w' ⟨s0, s1, s2, s3, s4, s5, s6⟩
                go_simp
                with_reducible rfl
              rotate_left
              · simp only [Act.put, List.setIfInBounds_toArray, List.set_cons_zero, List.set_cons_succ, i64_w, i32_w]
                rfl
              refine take_ (i := 3) (N := some 45) (v := ?_) (a' := ?_) #[true, true, true, true, true, true, false, false, true, false, false, false, false] rfl rfl (take_ofW HT_.out HW_.out (by kernel_rfl)) (fun _ _ _ h => h) (Or.inl ⟨by rfl, ?_⟩) hHeld ?_ ?_
              rotate_left
              · rintro w' ⟨s0, s1, s2, s3, s4, s5, s6⟩
                go_simp
                with_reducible rfl
              rotate_left
              · simp only [Act.put, List.setIfInBounds_toArray, List.set_cons_zero, List.set_cons_succ, i64_w, i32_w]
                rfl
              refine take_ (i := 6) (N := some 48) (v := ?_) (a' := ?_) #[true, true, true, true, true, true, true, false, true, false, false, false, false] rfl rfl (take_ofW HT_.out HW_.out (by kernel_rfl)) (fun _ _ _ h => h) (Or.inl ⟨by rfl, ?_⟩) hHeld ?_ ?_
              rotate_left
              · rintro w' ⟨s0, s1, s2, s3, s4, s5, s6⟩
                go_simp
                with_reducible rfl
              rotate_left
              · simp only [Act.put, List.setIfInBounds_toArray, List.set_cons_zero, List.set_cons_succ, i64_w, i32_w]
                rfl
              refine take_ (i := 9) (N := some 51) (v := ?_) (a' := ?_) #[true, true, true, true, true, true, true, false, true, true, false, false, false] rfl rfl (take_ofW HT_.out HW_.out (by kernel_rfl)) (fun _ _ _ h => h) (Or.inl ⟨by rfl, ?_⟩) hHeld ?_ ?_
              rotate_left
              · rintro w' ⟨s0, s1, s2, s3, s4, s5, s6⟩
                go_simp
                with_reducible rfl
              rotate_left
              · simp only [Act.put, List.setIfInBounds_toArray, List.set_cons_zero, List.set_cons_succ, i64_w, i32_w]
                rfl
              refine one_ (i := 7) (N := some 49) #[true, true, true, true, true, true, true, true, true, true, false, false, false] rfl rfl (one_of HT_.out (by kernel_rfl)) (by decide) (fun K hK => ?_)
              refine goes_ Try.func68 (by kernel_rfl) rfl #[.string a2_0, .slice A1 l1.length c1, .int .i64 a2_1] (by rfl) rfl rfl (by (try simp only [List.map_toArray, List.map_cons, List.map_nil]); first | done | rfl | (simp only [List.length_drop, List.length_take]; rfl)) ?_
              with_reducible refine (impl_yanswerBytes.calls a2_0 _ _ l1 a2_1 t106 _ ?side1 ?side2 A39.out).mono ?_
              (case side1 => repeat (first | exact (Kd.C_below HR1.out HB.out) | (with_reducible refine Kd.C_alloc ?_ _) | (with_reducible refine Kd.C_drewN ?_ _) | (with_reducible refine Kd.C_drew ?_)))
              (case side2 => exact HC1.out)
              rintro e w48 ⟨v107, rfl, ho0, hb⟩
              refine ⟨_, rfl, ?_⟩
              have n0_ := Aside0.mk (Kd.R_lower ho0 (below_size (by repeat (first | (with_reducible first | exact HB.out | apply below_alloc | apply pw_below_drewN | apply below_drew1 | refine below_set ?_ GE101.out | refine below_set ?_ GE102.out | refine below_set ?_ GE103.out) | exact HB.out))))
              have n1_ := Aside0.mk (blk_below (g := gb101) (o := .cells #[.int .i64 a0_0, .string a0_1, .int .i64 a0_2] 33 (0, 0)) (by (with_reducible repeat (first | refine blk_drewN ?_ _ | refine blk_drew ?_ | refine blk_alloc ?_ _)); exact BK101.out) hb)
              have n2_ := Aside0.mk (blk_below (g := gb102) (o := .cells #[.string a2_0, .int .i64 a2_1, .int .i64 a2_2, .int .i64 a2_3] 40 (0, 0)) (by (with_reducible repeat (first | refine blk_drewN ?_ _ | refine blk_drew ?_ | refine blk_alloc ?_ _)); exact BK102.out) hb)
              have n3_ := Aside0.mk (blk_below (g := gb103) (o := .cells #[.int .i64 0, .string (⟨#[]⟩ : ByteArray), .int .i64 0] 33 (0, 0)) (by (with_reducible repeat (first | refine blk_drewN ?_ _ | refine blk_drew ?_ | refine blk_alloc ?_ _)); exact BK103.out) hb)
              have n4_ := Aside0.mk (below_step (by repeat (first | (with_reducible first | exact HB.out | apply below_alloc | apply pw_below_drewN | apply below_drew1 | refine below_set ?_ GE101.out | refine below_set ?_ GE102.out | refine below_set ?_ GE103.out) | exact HB.out)) hb)
              clear BK101
              clear BK102
              clear BK103
              clear HB
              have HO108 := n0_
              have BK101 := n1_
              have BK102 := n2_
              have BK103 := n3_
              have HB := n4_
              clear n0_ n1_ n2_ n3_ n4_
              (try clear hb)
              (try clear hb2)
              (try clear hk)
              (try clear hi)
              (try clear ho0)
              obtain ⟨Ao49, co49, eo49⟩ := Kd.R_slice HO108.out
              (first | subst eo49 | (injection eo49 with f1_ f2_ f3_; have f4_ := f1_.symm; have f5_ := f3_.symm; clear f1_ f2_ f3_; subst f4_; subst f5_))
              refine hK.out _ _ ⟨(blk_cell BK101.out 0).trans rfl, (blk_cell BK101.out 1).trans rfl, (blk_cell BK101.out 2).trans rfl, (blk_cell BK102.out 0).trans rfl, (blk_cell BK102.out 1).trans rfl, (blk_cell BK102.out 2).trans rfl, (blk_cell BK102.out 3).trans rfl⟩ (fun hHeld => ?_)
              clear hK K
              refine norm_ (a' := ?_) ?_ ?_
              rotate_left
              · show Act.put _ (some 49) _ = _
                simp only [Act.put, List.setIfInBounds_toArray, List.set_cons_zero, List.set_cons_succ, i64_w, i32_w]
                rfl
              refine one_ (i := 10) (N := some 52) #[true, true, true, true, true, true, true, true, true, true, true, false, false] rfl rfl (one_of HT_.out (by kernel_rfl)) (by decide) (fun K hK => ?_)
              refine goes_ Try.func67 (by kernel_rfl) rfl #[.int .i64 a0_0, .slice Ao49 t106.length co49, .agg #[.int .i64 a2_2, .int .i64 a2_3]] (by rfl) rfl rfl (by (try simp only [List.map_toArray, List.map_cons, List.map_nil]); first | done | rfl | (simp only [List.length_drop, List.length_take]; rfl)) ?_
              with_reducible refine (impl_Verify.calls kj4 a0_0 _ _ t106 a2_2 a2_3 true _ ?side1 ?side2 A40.out).mono ?_
              (case side1 => repeat (first | exact (Kd.R_reads' HO108.out).2.2 | (with_reducible refine Kd.C_alloc ?_ _) | (with_reducible refine Kd.C_drewN ?_ _) | (with_reducible refine Kd.C_drew ?_)))
              (case side2 => exact (Kd.R_reads' HO108.out).2.1)
              rintro e w50 ⟨rfl, hb⟩
              refine ⟨_, rfl, ?_⟩
              have n0_ := Aside0.mk (Kd.R_below (by (with_reducible repeat (first | apply Kd.R_alloc | apply Kd.R_drewN | apply Kd.R_drew)); exact HO108.out) hb)
              have n1_ := Aside0.mk (blk_below (g := gb101) (o := .cells #[.int .i64 a0_0, .string a0_1, .int .i64 a0_2] 33 (0, 0)) (by (with_reducible repeat (first | refine blk_drewN ?_ _ | refine blk_drew ?_ | refine blk_alloc ?_ _)); exact BK101.out) hb)
              have n2_ := Aside0.mk (blk_below (g := gb102) (o := .cells #[.string a2_0, .int .i64 a2_1, .int .i64 a2_2, .int .i64 a2_3] 40 (0, 0)) (by (with_reducible repeat (first | refine blk_drewN ?_ _ | refine blk_drew ?_ | refine blk_alloc ?_ _)); exact BK102.out) hb)
              have n3_ := Aside0.mk (blk_below (g := gb103) (o := .cells #[.int .i64 0, .string (⟨#[]⟩ : ByteArray), .int .i64 0] 33 (0, 0)) (by (with_reducible repeat (first | refine blk_drewN ?_ _ | refine blk_drew ?_ | refine blk_alloc ?_ _)); exact BK103.out) hb)
              have n4_ := Aside0.mk (below_step (by repeat (first | (with_reducible first | exact HB.out | apply below_alloc | apply pw_below_drewN | apply below_drew1 | refine below_set ?_ GE101.out | refine below_set ?_ GE102.out | refine below_set ?_ GE103.out) | exact HB.out)) hb)
              clear HO108
              clear BK101
              clear BK102
              clear BK103
              clear HB
              have HO108 := n0_
              have BK101 := n1_
              have BK102 := n2_
              have BK103 := n3_
              have HB := n4_
              clear n0_ n1_ n2_ n3_ n4_
              (try clear hb)
              (try clear hb2)
              (try clear hk)
              (try clear hi)
              refine hK.out _ _ ⟨(blk_cell BK101.out 0).trans rfl, (blk_cell BK101.out 1).trans rfl, (blk_cell BK101.out 2).trans rfl, (blk_cell BK102.out 0).trans rfl, (blk_cell BK102.out 1).trans rfl, (blk_cell BK102.out 2).trans rfl, (blk_cell BK102.out 3).trans rfl⟩ (fun hHeld => ?_)
              clear hK K
              refine norm_ (a' := ?_) ?_ ?_
              rotate_left
              · show Act.put _ (some 52) _ = _
                simp only [Act.put, List.setIfInBounds_toArray, List.set_cons_zero, List.set_cons_succ, i64_w, i32_w]
                rfl
              refine pure_ (i := 11) (N := some 53) (v := ?_) (a' := ?_) #[true, true, true, true, true, true, true, true, true, true, true, true, false] rfl rfl (any_of HT_.out (by kernel_rfl)) (fun _ _ _ h => h) (Or.inl ⟨by rfl, ?_⟩) ?_ ?_
              rotate_left
              · intro w'
                go_simp
                with_reducible rfl
              rotate_left
              · simp only [Act.put, List.setIfInBounds_toArray, List.set_cons_zero, List.set_cons_succ, i64_w, i32_w]
                rfl
              refine pure_ (i := 12) (N := some 41) (v := ?_) (a' := ?_) #[true, true, true, true, true, true, true, true, true, true, true, true, true] rfl rfl (any_of HT_.out (by kernel_rfl)) (fun _ _ _ h => h) (Or.inl ⟨by rfl, ?_⟩) ?_ ?_
              rotate_left
              · intro w'
                go_simp
                with_reducible rfl
              rotate_left
              · simp only [Act.put, List.setIfInBounds_toArray, List.set_cons_zero, List.set_cons_succ, i64_w, i32_w]
                rfl
              refine done_ (done_of HT_.out (by kernel_rfl)) ?_
              have hcz51_0 : w50.cell? ⟨gb102, 0, none⟩ = some (.string a2_0) := (blk_cell BK102.out 0).trans rfl
              have hcz51_1 : w50.cell? ⟨gb102, 1, none⟩ = some (.int .i64 a2_1) := (blk_cell BK102.out 1).trans rfl
              have hcz51_2 : w50.cell? ⟨gb102, 2, none⟩ = some (.int .i64 a2_2) := (blk_cell BK102.out 2).trans rfl
              have hcz51_3 : w50.cell? ⟨gb102, 3, none⟩ = some (.int .i64 a2_3) := (blk_cell BK102.out 3).trans rfl
              have hfz51_0 := blk_frozen BK102.out 0
              have hfz51_1 := blk_frozen BK102.out 1
              have hfz51_2 := blk_frozen BK102.out 2
              have hfz51_3 := blk_frozen BK102.out 3
              have hcz52_0 : w50.cell? ⟨gb101, 0, none⟩ = some (.int .i64 a0_0) := (blk_cell BK101.out 0).trans rfl
              have hcz52_1 : w50.cell? ⟨gb101, 1, none⟩ = some (.string a0_1) := (blk_cell BK101.out 1).trans rfl
              have hcz52_2 : w50.cell? ⟨gb101, 2, none⟩ = some (.int .i64 a0_2) := (blk_cell BK101.out 2).trans rfl
              have hfz52_0 := blk_frozen BK101.out 0
              have hfz52_1 := blk_frozen BK101.out 1
              have hfz52_2 := blk_frozen BK101.out 2
              have hcz53_0 : w50.cell? ⟨gb103, 0, none⟩ = some (.int .i64 0) := (blk_cell BK103.out 0).trans rfl
              have hcz53_1 : w50.cell? ⟨gb103, 1, none⟩ = some (.string (⟨#[]⟩ : ByteArray)) := (blk_cell BK103.out 1).trans rfl
              have hcz53_2 : w50.cell? ⟨gb103, 2, none⟩ = some (.int .i64 0) := (blk_cell BK103.out 2).trans rfl
              have hfz53_0 := blk_frozen BK103.out 0
              have hfz53_1 := blk_frozen BK103.out 1
              have hfz53_2 := blk_frozen BK103.out 2
              try go_wp2
              refine bodyPost_ret (results_ct rfl _ _ gb103 33 #[.int .i64 a0_0, .string a0_1, .int .i64 a2_1] (0, 0) _ rfl (by (with_reducible repeat (first | refine blk_drewN ?_ _ | refine blk_drew ?_ | refine blk_alloc ?_ _)); refine blk_put (cs := #[.int .i64 a0_0, .string a0_1, .int .i64 0]) ?_ 2 _ rfl; (with_reducible repeat (first | refine blk_drewN ?_ _ | refine blk_drew ?_ | refine blk_alloc ?_ _)); refine blk_put (cs := #[.int .i64 a0_0, .string (⟨#[]⟩ : ByteArray), .int .i64 0]) ?_ 1 _ rfl; (with_reducible repeat (first | refine blk_drewN ?_ _ | refine blk_drew ?_ | refine blk_alloc ?_ _)); refine blk_put (cs := #[.int .i64 0, .string (⟨#[]⟩ : ByteArray), .int .i64 0]) ?_ 0 _ rfl; (with_reducible repeat (first | refine blk_drewN ?_ _ | refine blk_drew ?_ | refine blk_alloc ?_ _)); refine blk_far ?_ NB103_101.out _; (with_reducible repeat (first | refine blk_drewN ?_ _ | refine blk_drew ?_ | refine blk_alloc ?_ _)); exact BK103.out) Try.underlying33 rfl (by kernel_rfl)) rfl ?_
              exact ⟨by first | rfl | (simp [errW_none, errW_some] <;> rfl) | (simp [*, errW_none, errW_some] <;> rfl), by repeat (first | (with_reducible first | exact HB.out | apply below_alloc | apply pw_below_drewN | apply below_drew1 | refine below_set ?_ GE101.out | refine below_set ?_ GE102.out | refine below_set ?_ GE103.out) | exact HB.out)⟩
            · replace c41 := Bool.eq_false_iff.mpr c41
              subst c41
              have H1 : (some (0, (⟨#[]⟩ : ByteArray), 0, 4)) = some (r1, r2, r3, r4) := by rw [if_neg (show ¬ (false = true) by decide)] at H; exact H
              clear H
              have H := H1
              clear H1
              simp only [Option.some.injEq, Prod.mk.injEq] at H
              obtain ⟨rfl, rfl, rfl, rfl⟩ := H
              have hnb54 := NB102_101.out
              have hnc54 := NB101_102.out
              have hnb55 := NB102_103.out
              have hnc55 := NB103_102.out
              have hcz56_0 : wc.cell? ⟨gb102, 0, none⟩ = some (.string a2_0) := (blk_cell BK102.out 0).trans rfl
              have hcz56_1 : wc.cell? ⟨gb102, 1, none⟩ = some (.int .i64 a2_1) := (blk_cell BK102.out 1).trans rfl
              have hcz56_2 : wc.cell? ⟨gb102, 2, none⟩ = some (.int .i64 a2_2) := (blk_cell BK102.out 2).trans rfl
              have hcz56_3 : wc.cell? ⟨gb102, 3, none⟩ = some (.int .i64 a2_3) := (blk_cell BK102.out 3).trans rfl
              have hfz56_0 := blk_frozen BK102.out 0
              have hfz56_1 := blk_frozen BK102.out 1
              have hfz56_2 := blk_frozen BK102.out 2
              have hfz56_3 := blk_frozen BK102.out 3
              have hnb57 := NB101_103.out
              have hnc57 := NB103_101.out
              have hcz58_0 : wc.cell? ⟨gb101, 0, none⟩ = some (.int .i64 a0_0) := (blk_cell BK101.out 0).trans rfl
              have hcz58_1 : wc.cell? ⟨gb101, 1, none⟩ = some (.string a0_1) := (blk_cell BK101.out 1).trans rfl
              have hcz58_2 : wc.cell? ⟨gb101, 2, none⟩ = some (.int .i64 a0_2) := (blk_cell BK101.out 2).trans rfl
              have hfz58_0 := blk_frozen BK101.out 0
              have hfz58_1 := blk_frozen BK101.out 1
              have hfz58_2 := blk_frozen BK101.out 2
              try go_wp2
              have n0_ := Aside0.mk (blk_drew BK101.out)
              have n1_ := Aside0.mk (blk_drew BK102.out)
              have n2_ := Aside0.mk (blk_drew BK103.out)
              have n3_ := Aside0.mk (below_drew1 HB.out)
              clear BK101
              clear BK102
              clear BK103
              clear HB
              have BK101 := n0_
              have BK102 := n1_
              have BK103 := n2_
              have HB := n3_
              clear n0_ n1_ n2_ n3_
              refine start_ (n := 13) (S := fun w' => w'.cell? ⟨gb101, 0, none⟩ = some (.int .i64 a0_0) ∧ w'.cell? ⟨gb101, 1, none⟩ = some (.string a0_1) ∧ w'.cell? ⟨gb101, 2, none⟩ = some (.int .i64 a0_2) ∧ w'.cell? ⟨gb102, 0, none⟩ = some (.string a2_0) ∧ w'.cell? ⟨gb102, 1, none⟩ = some (.int .i64 a2_1) ∧ w'.cell? ⟨gb102, 2, none⟩ = some (.int .i64 a2_2) ∧ w'.cell? ⟨gb102, 3, none⟩ = some (.int .i64 a2_3)) (ds := []) #[false, false, false, false, false, false, false, false, false, false, false, false, false] (by kernel_rfl) rfl rfl ⟨(blk_cell BK101.out 0).trans rfl, (blk_cell BK101.out 1).trans rfl, (blk_cell BK101.out 2).trans rfl, (blk_cell BK102.out 0).trans rfl, (blk_cell BK102.out 1).trans rfl, (blk_cell BK102.out 2).trans rfl, (blk_cell BK102.out 3).trans rfl⟩ (fun hHeld => ?_); refine with_tabW impl_CheckAnswer.tab10 impl_CheckAnswer.bits10 (fun HT_ HW_ => ?_)
              generalize wc.drew = w59 at BK101 BK102 BK103 HB hHeld ⊢
              refine pure_ (i := 0) (N := some 42) (v := ?_) (a' := ?_) #[true, false, false, false, false, false, false, false, false, false, false, false, false] rfl rfl (any_of HT_.out (by kernel_rfl)) (fun _ _ _ h => h) (Or.inl ⟨by rfl, ?_⟩) ?_ ?_
              rotate_left
              · intro w'
                go_simp
                with_reducible rfl
              rotate_left
              · simp only [Act.put, List.setIfInBounds_toArray, List.set_cons_zero, List.set_cons_succ, i64_w, i32_w]
                rfl
              refine pure_ (i := 2) (N := some 44) (v := ?_) (a' := ?_) #[true, false, true, false, false, false, false, false, false, false, false, false, false] rfl rfl (any_of HT_.out (by kernel_rfl)) (fun _ _ _ h => h) (Or.inl ⟨by rfl, ?_⟩) ?_ ?_
              rotate_left
              · intro w'
                go_simp
                with_reducible rfl
              rotate_left
              · simp only [Act.put, List.setIfInBounds_toArray, List.set_cons_zero, List.set_cons_succ, i64_w, i32_w]
                rfl
              refine pure_ (i := 4) (N := some 46) (v := ?_) (a' := ?_) #[true, false, true, false, true, false, false, false, false, false, false, false, false] rfl rfl (any_of HT_.out (by kernel_rfl)) (fun _ _ _ h => h) (Or.inl ⟨by rfl, ?_⟩) ?_ ?_
              rotate_left
              · intro w'
                go_simp
                with_reducible rfl
              rotate_left
              · simp only [Act.put, List.setIfInBounds_toArray, List.set_cons_zero, List.set_cons_succ, i64_w, i32_w]
                rfl
              refine pure_ (i := 5) (N := some 47) (v := ?_) (a' := ?_) #[true, false, true, false, true, true, false, false, false, false, false, false, false] rfl rfl (any_of HT_.out (by kernel_rfl)) (fun _ _ _ h => h) (Or.inl ⟨by rfl, ?_⟩) ?_ ?_
              rotate_left
              · intro w'
                go_simp
                with_reducible rfl
              rotate_left
              · simp only [Act.put, List.setIfInBounds_toArray, List.set_cons_zero, List.set_cons_succ, i64_w, i32_w]
                rfl
              refine pure_ (i := 8) (N := some 50) (v := ?_) (a' := ?_) #[true, false, true, false, true, true, false, false, true, false, false, false, false] rfl rfl (any_of HT_.out (by kernel_rfl)) (fun _ _ _ h => h) (Or.inl ⟨by rfl, ?_⟩) ?_ ?_
              rotate_left
              · intro w'
                go_simp
                with_reducible rfl
              rotate_left
              · simp only [Act.put, List.setIfInBounds_toArray, List.set_cons_zero, List.set_cons_succ, i64_w, i32_w]
                rfl
              refine take_ (i := 1) (N := some 43) (v := ?_) (a' := ?_) #[true, true, true, false, true, true, false, false, true, false, false, false, false] rfl rfl (take_ofW HT_.out HW_.out (by kernel_rfl)) (fun _ _ _ h => h) (Or.inl ⟨by rfl, ?_⟩) hHeld ?_ ?_
              rotate_left
              · rintro w' ⟨s0, s1, s2, s3, s4, s5, s6⟩
                go_simp
                with_reducible rfl
              rotate_left
              · simp only [Act.put, List.setIfInBounds_toArray, List.set_cons_zero, List.set_cons_succ, i64_w, i32_w]
                rfl
              refine take_ (i := 3) (N := some 45) (v := ?_) (a' := ?_) #[true, true, true, true, true, true, false, false, true, false, false, false, false] rfl rfl (take_ofW HT_.out HW_.out (by kernel_rfl)) (fun _ _ _ h => h) (Or.inl ⟨by rfl, ?_⟩) hHeld ?_ ?_
              rotate_left
              · rintro w' ⟨s0, s1, s2, s3, s4, s5, s6⟩
                go_simp
                with_reducible rfl
              rotate_left
              · simp only [Act.put, List.setIfInBounds_toArray, List.set_cons_zero, List.set_cons_succ, i64_w, i32_w]
                rfl
              refine take_ (i := 6) (N := some 48) (v := ?_) (a' := ?_) #[true, true, true, true, true, true, true, false, true, false, false, false, false] rfl rfl (take_ofW HT_.out HW_.out (by kernel_rfl)) (fun _ _ _ h => h) (Or.inl ⟨by rfl, ?_⟩) hHeld ?_ ?_
              rotate_left
              · rintro w' ⟨s0, s1, s2, s3, s4, s5, s6⟩
                go_simp
                with_reducible rfl
              rotate_left
              · simp only [Act.put, List.setIfInBounds_toArray, List.set_cons_zero, List.set_cons_succ, i64_w, i32_w]
                rfl
              refine take_ (i := 9) (N := some 51) (v := ?_) (a' := ?_) #[true, true, true, true, true, true, true, false, true, true, false, false, false] rfl rfl (take_ofW HT_.out HW_.out (by kernel_rfl)) (fun _ _ _ h => h) (Or.inl ⟨by rfl, ?_⟩) hHeld ?_ ?_
              rotate_left
              · rintro w' ⟨s0, s1, s2, s3, s4, s5, s6⟩
                go_simp
                with_reducible rfl
              rotate_left
              · simp only [Act.put, List.setIfInBounds_toArray, List.set_cons_zero, List.set_cons_succ, i64_w, i32_w]
                rfl
              refine one_ (i := 7) (N := some 49) #[true, true, true, true, true, true, true, true, true, true, false, false, false] rfl rfl (one_of HT_.out (by kernel_rfl)) (by decide) (fun K hK => ?_)
              refine goes_ Try.func68 (by kernel_rfl) rfl #[.string a2_0, .slice A1 l1.length c1, .int .i64 a2_1] (by rfl) rfl rfl (by (try simp only [List.map_toArray, List.map_cons, List.map_nil]); first | done | rfl | (simp only [List.length_drop, List.length_take]; rfl)) ?_
              with_reducible refine (impl_yanswerBytes.calls a2_0 _ _ l1 a2_1 t106 _ ?side1 ?side2 A39.out).mono ?_
              (case side1 => repeat (first | exact (Kd.C_below HR1.out HB.out) | (with_reducible refine Kd.C_alloc ?_ _) | (with_reducible refine Kd.C_drewN ?_ _) | (with_reducible refine Kd.C_drew ?_)))
              (case side2 => exact HC1.out)
              rintro e w60 ⟨v107, rfl, ho0, hb⟩
              refine ⟨_, rfl, ?_⟩
              have n0_ := Aside0.mk (Kd.R_lower ho0 (below_size (by repeat (first | (with_reducible first | exact HB.out | apply below_alloc | apply pw_below_drewN | apply below_drew1 | refine below_set ?_ GE101.out | refine below_set ?_ GE102.out | refine below_set ?_ GE103.out) | exact HB.out))))
              have n1_ := Aside0.mk (blk_below (g := gb101) (o := .cells #[.int .i64 a0_0, .string a0_1, .int .i64 a0_2] 33 (0, 0)) (by (with_reducible repeat (first | refine blk_drewN ?_ _ | refine blk_drew ?_ | refine blk_alloc ?_ _)); exact BK101.out) hb)
              have n2_ := Aside0.mk (blk_below (g := gb102) (o := .cells #[.string a2_0, .int .i64 a2_1, .int .i64 a2_2, .int .i64 a2_3] 40 (0, 0)) (by (with_reducible repeat (first | refine blk_drewN ?_ _ | refine blk_drew ?_ | refine blk_alloc ?_ _)); exact BK102.out) hb)
              have n3_ := Aside0.mk (blk_below (g := gb103) (o := .cells #[.int .i64 0, .string (⟨#[]⟩ : ByteArray), .int .i64 0] 33 (0, 0)) (by (with_reducible repeat (first | refine blk_drewN ?_ _ | refine blk_drew ?_ | refine blk_alloc ?_ _)); exact BK103.out) hb)
              have n4_ := Aside0.mk (below_step (by repeat (first | (with_reducible first | exact HB.out | apply below_alloc | apply pw_below_drewN | apply below_drew1 | refine below_set ?_ GE101.out | refine below_set ?_ GE102.out | refine below_set ?_ GE103.out) | exact HB.out)) hb)
              clear BK101
              clear BK102
              clear BK103
              clear HB
              have HO108 := n0_
              have BK101 := n1_
              have BK102 := n2_
              have BK103 := n3_
              have HB := n4_
              clear n0_ n1_ n2_ n3_ n4_
              (try clear hb)
              (try clear hb2)
              (try clear hk)
              (try clear hi)
              (try clear ho0)
              obtain ⟨Ao61, co61, eo61⟩ := Kd.R_slice HO108.out
              (first | subst eo61 | (injection eo61 with f1_ f2_ f3_; have f4_ := f1_.symm; have f5_ := f3_.symm; clear f1_ f2_ f3_; subst f4_; subst f5_))
              refine hK.out _ _ ⟨(blk_cell BK101.out 0).trans rfl, (blk_cell BK101.out 1).trans rfl, (blk_cell BK101.out 2).trans rfl, (blk_cell BK102.out 0).trans rfl, (blk_cell BK102.out 1).trans rfl, (blk_cell BK102.out 2).trans rfl, (blk_cell BK102.out 3).trans rfl⟩ (fun hHeld => ?_)
              clear hK K
              refine norm_ (a' := ?_) ?_ ?_
              rotate_left
              · show Act.put _ (some 49) _ = _
                simp only [Act.put, List.setIfInBounds_toArray, List.set_cons_zero, List.set_cons_succ, i64_w, i32_w]
                rfl
              refine one_ (i := 10) (N := some 52) #[true, true, true, true, true, true, true, true, true, true, true, false, false] rfl rfl (one_of HT_.out (by kernel_rfl)) (by decide) (fun K hK => ?_)
              refine goes_ Try.func67 (by kernel_rfl) rfl #[.int .i64 a0_0, .slice Ao61 t106.length co61, .agg #[.int .i64 a2_2, .int .i64 a2_3]] (by rfl) rfl rfl (by (try simp only [List.map_toArray, List.map_cons, List.map_nil]); first | done | rfl | (simp only [List.length_drop, List.length_take]; rfl)) ?_
              with_reducible refine (impl_Verify.calls kj4 a0_0 _ _ t106 a2_2 a2_3 false _ ?side1 ?side2 A40.out).mono ?_
              (case side1 => repeat (first | exact (Kd.R_reads' HO108.out).2.2 | (with_reducible refine Kd.C_alloc ?_ _) | (with_reducible refine Kd.C_drewN ?_ _) | (with_reducible refine Kd.C_drew ?_)))
              (case side2 => exact (Kd.R_reads' HO108.out).2.1)
              rintro e w62 ⟨rfl, hb⟩
              refine ⟨_, rfl, ?_⟩
              have n0_ := Aside0.mk (Kd.R_below (by (with_reducible repeat (first | apply Kd.R_alloc | apply Kd.R_drewN | apply Kd.R_drew)); exact HO108.out) hb)
              have n1_ := Aside0.mk (blk_below (g := gb101) (o := .cells #[.int .i64 a0_0, .string a0_1, .int .i64 a0_2] 33 (0, 0)) (by (with_reducible repeat (first | refine blk_drewN ?_ _ | refine blk_drew ?_ | refine blk_alloc ?_ _)); exact BK101.out) hb)
              have n2_ := Aside0.mk (blk_below (g := gb102) (o := .cells #[.string a2_0, .int .i64 a2_1, .int .i64 a2_2, .int .i64 a2_3] 40 (0, 0)) (by (with_reducible repeat (first | refine blk_drewN ?_ _ | refine blk_drew ?_ | refine blk_alloc ?_ _)); exact BK102.out) hb)
              have n3_ := Aside0.mk (blk_below (g := gb103) (o := .cells #[.int .i64 0, .string (⟨#[]⟩ : ByteArray), .int .i64 0] 33 (0, 0)) (by (with_reducible repeat (first | refine blk_drewN ?_ _ | refine blk_drew ?_ | refine blk_alloc ?_ _)); exact BK103.out) hb)
              have n4_ := Aside0.mk (below_step (by repeat (first | (with_reducible first | exact HB.out | apply below_alloc | apply pw_below_drewN | apply below_drew1 | refine below_set ?_ GE101.out | refine below_set ?_ GE102.out | refine below_set ?_ GE103.out) | exact HB.out)) hb)
              clear HO108
              clear BK101
              clear BK102
              clear BK103
              clear HB
              have HO108 := n0_
              have BK101 := n1_
              have BK102 := n2_
              have BK103 := n3_
              have HB := n4_
              clear n0_ n1_ n2_ n3_ n4_
              (try clear hb)
              (try clear hb2)
              (try clear hk)
              (try clear hi)
              refine hK.out _ _ ⟨(blk_cell BK101.out 0).trans rfl, (blk_cell BK101.out 1).trans rfl, (blk_cell BK101.out 2).trans rfl, (blk_cell BK102.out 0).trans rfl, (blk_cell BK102.out 1).trans rfl, (blk_cell BK102.out 2).trans rfl, (blk_cell BK102.out 3).trans rfl⟩ (fun hHeld => ?_)
              clear hK K
              refine norm_ (a' := ?_) ?_ ?_
              rotate_left
              · show Act.put _ (some 52) _ = _
                simp only [Act.put, List.setIfInBounds_toArray, List.set_cons_zero, List.set_cons_succ, i64_w, i32_w]
                rfl
              refine pure_ (i := 11) (N := some 53) (v := ?_) (a' := ?_) #[true, true, true, true, true, true, true, true, true, true, true, true, false] rfl rfl (any_of HT_.out (by kernel_rfl)) (fun _ _ _ h => h) (Or.inl ⟨by rfl, ?_⟩) ?_ ?_
              rotate_left
              · intro w'
                go_simp
                with_reducible rfl
              rotate_left
              · simp only [Act.put, List.setIfInBounds_toArray, List.set_cons_zero, List.set_cons_succ, i64_w, i32_w]
                rfl
              refine pure_ (i := 12) (N := some 41) (v := ?_) (a' := ?_) #[true, true, true, true, true, true, true, true, true, true, true, true, true] rfl rfl (any_of HT_.out (by kernel_rfl)) (fun _ _ _ h => h) (Or.inl ⟨by rfl, ?_⟩) ?_ ?_
              rotate_left
              · intro w'
                go_simp
                with_reducible rfl
              rotate_left
              · simp only [Act.put, List.setIfInBounds_toArray, List.set_cons_zero, List.set_cons_succ, i64_w, i32_w]
                rfl
              refine done_ (done_of HT_.out (by kernel_rfl)) ?_
              have hcz63_0 : w62.cell? ⟨gb103, 0, none⟩ = some (.int .i64 0) := (blk_cell BK103.out 0).trans rfl
              have hcz63_1 : w62.cell? ⟨gb103, 1, none⟩ = some (.string (⟨#[]⟩ : ByteArray)) := (blk_cell BK103.out 1).trans rfl
              have hcz63_2 : w62.cell? ⟨gb103, 2, none⟩ = some (.int .i64 0) := (blk_cell BK103.out 2).trans rfl
              have hfz63_0 := blk_frozen BK103.out 0
              have hfz63_1 := blk_frozen BK103.out 1
              have hfz63_2 := blk_frozen BK103.out 2
              try go_wp2
              refine bodyPost_ret (results_ct rfl _ _ gb103 33 #[.int .i64 0, .string (⟨#[]⟩ : ByteArray), .int .i64 0] (0, 0) _ rfl (by (with_reducible repeat (first | refine blk_drewN ?_ _ | refine blk_drew ?_ | refine blk_alloc ?_ _)); refine blk_put (cs := #[.int .i64 0, .string (⟨#[]⟩ : ByteArray), .int .i64 0]) ?_ 2 _ rfl; (with_reducible repeat (first | refine blk_drewN ?_ _ | refine blk_drew ?_ | refine blk_alloc ?_ _)); refine blk_put (cs := #[.int .i64 0, .string (⟨#[]⟩ : ByteArray), .int .i64 0]) ?_ 1 _ rfl; (with_reducible repeat (first | refine blk_drewN ?_ _ | refine blk_drew ?_ | refine blk_alloc ?_ _)); refine blk_put (cs := #[.int .i64 0, .string (⟨#[]⟩ : ByteArray), .int .i64 0]) ?_ 0 _ rfl; (with_reducible repeat (first | refine blk_drewN ?_ _ | refine blk_drew ?_ | refine blk_alloc ?_ _)); exact BK103.out) Try.underlying33 rfl (by kernel_rfl)) rfl ?_
              exact ⟨by first | rfl | (simp [errW_none, errW_some] <;> rfl) | (simp [*, errW_none, errW_some] <;> rfl), by repeat (first | (with_reducible first | exact HB.out | apply below_alloc | apply pw_below_drewN | apply below_drew1 | refine below_set ?_ GE101.out | refine below_set ?_ GE102.out | refine below_set ?_ GE103.out) | exact HB.out)⟩
        · rw [if_neg c31] at H
          have c31b0 : (a2_0.toList == a0_1.toList) = false := beq_eq_false_iff_ne.mpr c31
          have c31b1 : (a2_0.toList != a0_1.toList) = true := bne_iff_ne.mpr c31
          simp only [Option.some.injEq, Prod.mk.injEq] at H
          obtain ⟨rfl, rfl, rfl, rfl⟩ := H
          have hnb64 := NB102_101.out
          have hnc64 := NB101_102.out
          have hnb65 := NB102_103.out
          have hnc65 := NB103_102.out
          have hcz66_0 : wc.cell? ⟨gb102, 0, none⟩ = some (.string a2_0) := (blk_cell BK102.out 0).trans rfl
          have hcz66_1 : wc.cell? ⟨gb102, 1, none⟩ = some (.int .i64 a2_1) := (blk_cell BK102.out 1).trans rfl
          have hcz66_2 : wc.cell? ⟨gb102, 2, none⟩ = some (.int .i64 a2_2) := (blk_cell BK102.out 2).trans rfl
          have hcz66_3 : wc.cell? ⟨gb102, 3, none⟩ = some (.int .i64 a2_3) := (blk_cell BK102.out 3).trans rfl
          have hfz66_0 := blk_frozen BK102.out 0
          have hfz66_1 := blk_frozen BK102.out 1
          have hfz66_2 := blk_frozen BK102.out 2
          have hfz66_3 := blk_frozen BK102.out 3
          have hnb67 := NB101_103.out
          have hnc67 := NB103_101.out
          have hcz68_0 : wc.cell? ⟨gb101, 0, none⟩ = some (.int .i64 a0_0) := (blk_cell BK101.out 0).trans rfl
          have hcz68_1 : wc.cell? ⟨gb101, 1, none⟩ = some (.string a0_1) := (blk_cell BK101.out 1).trans rfl
          have hcz68_2 : wc.cell? ⟨gb101, 2, none⟩ = some (.int .i64 a0_2) := (blk_cell BK101.out 2).trans rfl
          have hfz68_0 := blk_frozen BK101.out 0
          have hfz68_1 := blk_frozen BK101.out 1
          have hfz68_2 := blk_frozen BK101.out 2
          have hcz69_0 : wc.cell? ⟨gb103, 0, none⟩ = some (.int .i64 0) := (blk_cell BK103.out 0).trans rfl
          have hcz69_1 : wc.cell? ⟨gb103, 1, none⟩ = some (.string (⟨#[]⟩ : ByteArray)) := (blk_cell BK103.out 1).trans rfl
          have hcz69_2 : wc.cell? ⟨gb103, 2, none⟩ = some (.int .i64 0) := (blk_cell BK103.out 2).trans rfl
          have hfz69_0 := blk_frozen BK103.out 0
          have hfz69_1 := blk_frozen BK103.out 1
          have hfz69_2 := blk_frozen BK103.out 2
          go_wp2
          refine bodyPost_ret (results_ct rfl _ _ gb103 33 #[.int .i64 0, .string (⟨#[]⟩ : ByteArray), .int .i64 0] (0, 0) _ rfl (by (with_reducible repeat (first | refine blk_drewN ?_ _ | refine blk_drew ?_ | refine blk_alloc ?_ _)); refine blk_put (cs := #[.int .i64 0, .string (⟨#[]⟩ : ByteArray), .int .i64 0]) ?_ 2 _ rfl; (with_reducible repeat (first | refine blk_drewN ?_ _ | refine blk_drew ?_ | refine blk_alloc ?_ _)); refine blk_put (cs := #[.int .i64 0, .string (⟨#[]⟩ : ByteArray), .int .i64 0]) ?_ 1 _ rfl; (with_reducible repeat (first | refine blk_drewN ?_ _ | refine blk_drew ?_ | refine blk_alloc ?_ _)); refine blk_put (cs := #[.int .i64 0, .string (⟨#[]⟩ : ByteArray), .int .i64 0]) ?_ 0 _ rfl; (with_reducible repeat (first | refine blk_drewN ?_ _ | refine blk_drew ?_ | refine blk_alloc ?_ _)); exact BK103.out) Try.underlying33 rfl (by kernel_rfl)) rfl ?_
          exact ⟨by first | rfl | (simp [errW_none, errW_some] <;> rfl) | (simp [*, errW_none, errW_some] <;> rfl), by repeat (first | (with_reducible first | exact HB.out | apply below_alloc | apply pw_below_drewN | apply below_drew1 | refine below_set ?_ GE101.out | refine below_set ?_ GE102.out | refine below_set ?_ GE103.out) | exact HB.out)⟩

end Go.Proofs.Ytgolcojhnklfdaa.Pr
-- Written by mkprint.py (a program of this repo, which drives the print.py of the kit): Lean checks it.
namespace Go.Proofs.Ytgolcojhnklfdaa.Pr
open Go.RowKit Go.Proofs.YtgolcojhnklfdaaW.PrintWords Go.Proofs.YtgolcojhnklfdaaW.PrintLast Go.Proofs.YtgolcojhnklfdaaW.PrintMore
attribute [local go_sem] max2_int min2_int max_two min_two max_three min_three max_four min_four   -- for this text's walks alone
set_option linter.unusedVariables false
set_option linter.unusedSimpArgs false

/-- A state of type 119 at block g of W; what its slices lead to came in by w0. -/
def IsS119 (w0 W : World) (g : Nat) (f0 : List Int) (f1 : Int) (f2 : Int) : Prop := ∃ A0 c0, W.heap[g]? = some (.cells #[.slice A0 f0.length c0, .int .i64 f1, .int .u64 f2] 119 (0, 0)) ∧ w0.heap.size ≤ g ∧ Kd.C (Kd.int .u8) w0 A0 f0.length f0
theorem IsS119.grown {w0 W : World} {g : Nat} {f0 : List Int} {f1 : Int} {f2 : Int} {W1 : World} {row : Option Nat} (h : IsS119 w0 W g f0 f1 f2) (hw : W.grownBy W1 row) (hne : some g ≠ row) : IsS119 w0 W1 g f0 f1 f2 := by
  obtain ⟨A0, c0, hb, hg, hr0⟩ := h
  exact ⟨A0, c0, blk_grown hb hw hne, hg, hr0⟩
theorem IsS119.own_neN {w0 W : World} {g : Nat} {f0 : List Int} {f1 : Int} {f2 : Int} {α : Type} {d : Kd α} {e : Nat} {base : Nat} {ok : Nat → Prop} {v : Value} {xs : List α} (h : IsS119 w0 W g f0 f1 f2) (ho : Kd.N d e W base ok v xs) (ht : e ≠ 119) : some g ≠ v.ownBlock := by
  obtain ⟨A0, c0, hb, hg, hr0⟩ := h
  exact Kd.N_ne ho hb ht
theorem IsS119.fresh {w0 W : World} {g : Nat} {f0 : List Int} {f1 : Int} {f2 : Int} (h : IsS119 w0 W g f0 f1 f2) : ∀ k, W.heap.size ≤ k → k ≠ g := by
  obtain ⟨A0, c0, hb, hg, hr0⟩ := h
  exact Kd.freshB hb
theorem IsS119.kept {w0 W : World} {g : Nat} {f0 : List Int} {f1 : Int} {f2 : Int} {W1 : World} {S : Nat → Prop} (h : IsS119 w0 W g f0 f1 f2) (hk : Kept W W1 S) (hne : ¬ S g) : IsS119 w0 W1 g f0 f1 f2 := by
  obtain ⟨A0, c0, hb, hg, hr0⟩ := h
  exact ⟨A0, c0, blk_kept hb hk hne, hg, hr0⟩
theorem IsS119.below {w0 W : World} {g : Nat} {f0 : List Int} {f1 : Int} {f2 : Int} {W1 : World} (h : IsS119 w0 W g f0 f1 f2) (hw : Below W.heap.size W W1) : IsS119 w0 W1 g f0 f1 f2 := h.grown (grown_of_below hw none) (by simp)
theorem IsS119.alloc {w0 W : World} {g : Nat} {f0 : List Int} {f1 : Int} {f2 : Int} (h : IsS119 w0 W g f0 f1 f2) (o : Obj) : IsS119 w0 (W.alloc o) g f0 f1 f2 := h.below (below_alloc (Below.refl _ _) o)
theorem IsS119.drewN {w0 W : World} {g : Nat} {f0 : List Int} {f1 : Int} {f2 : Int} (h : IsS119 w0 W g f0 f1 f2) (m : Nat) : IsS119 w0 (W.drewN m) g f0 f1 f2 := h
theorem IsS119.drew {w0 W : World} {g : Nat} {f0 : List Int} {f1 : Int} {f2 : Int} (h : IsS119 w0 W g f0 f1 f2) : IsS119 w0 W.drew g f0 f1 f2 := h
theorem IsS119.at_ {w0 W : World} {g : Nat} {f0 : List Int} {f1 : Int} {f2 : Int} {w' : World} {m : Nat} (hq : W.drewN m = w') (h : IsS119 w0 W g f0 f1 f2) : IsS119 w0 w' g f0 f1 f2 := by subst hq; exact IsS119.drewN h m
theorem IsS119.apart {w0 W : World} {g : Nat} {f0 : List Int} {f1 : Int} {f2 : Int} {α : Type} {d : Kd α} {e : Nat} {base : Nat} {ok : Nat → Prop} {v : Value} {xs : List α} (h : IsS119 w0 W g f0 f1 f2) (ho : d.R e W base ok v xs) (ht : ∀ q, q ∈ e :: d.E → q ≠ 119) : d.R e W base (fun k => ok k ∧ k ≠ g) v xs := by
  obtain ⟨A0, c0, hb, hg, hr0⟩ := h
  exact Kd.R_types ho hb ht
theorem IsS119.own_ne {w0 W : World} {g : Nat} {f0 : List Int} {f1 : Int} {f2 : Int} {α : Type} {d : Kd α} {e : Nat} {base : Nat} {ok : Nat → Prop} {v : Value} {xs : List α} (h : IsS119 w0 W g f0 f1 f2) (ho : d.R e W base ok v xs) (ht : e ≠ 119) : some g ≠ v.ownBlock := by
  obtain ⟨A0, c0, hb, hg, hr0⟩ := h
  exact Kd.R_ne ho hb ht
theorem IsS119.apartQ {w0 W : World} {g : Nat} {f0 : List Int} {f1 : Int} {f2 : Int} {α : Type} {d : Kd α} {e : Nat} {base : Nat} {ok : Nat → Prop} {v : Value} {xs : List α} (h : IsS119 w0 W g f0 f1 f2) (ho : d.Q e W base ok v xs) (ht : ∀ q, q ∈ e :: d.E → q ≠ 119) : d.Q e W base (fun k => ok k ∧ k ≠ g) v xs := by
  obtain ⟨A0, c0, hb, hg, hr0⟩ := h
  exact Kd.Q_types ho hb ht
theorem IsS119.own_neQ {w0 W : World} {g : Nat} {f0 : List Int} {f1 : Int} {f2 : Int} {α : Type} {d : Kd α} {e : Nat} {base : Nat} {ok : Nat → Prop} {v : Value} {xs : List α} (h : IsS119 w0 W g f0 f1 f2) (ho : d.Q e W base ok v xs) (ht : e ≠ 119) : some g ≠ v.ownBlock := by
  obtain ⟨A0, c0, hb, hg, hr0⟩ := h
  exact Kd.Q_ne ho hb ht
theorem IsS119.apartS {w0 W : World} {g : Nat} {f0 : List Int} {f1 : Int} {f2 : Int} {α : Type} {d : Kd α} {e : Nat} {base : Nat} {ok : Nat → Prop} {v : Value} {xs : List α} (h : IsS119 w0 W g f0 f1 f2) (ho : d.S e W base ok v xs) (ht : ∀ q, q ∈ e :: d.E → q ≠ 119) : d.S e W base (fun k => ok k ∧ k ≠ g) v xs := by
  obtain ⟨A0, c0, hb, hg, hr0⟩ := h
  exact Kd.S_types ho hb ht
theorem IsS119.own_neS {w0 W : World} {g : Nat} {f0 : List Int} {f1 : Int} {f2 : Int} {α : Type} {d : Kd α} {e : Nat} {base : Nat} {ok : Nat → Prop} {v : Value} {xs : List α} (h : IsS119 w0 W g f0 f1 f2) (ho : d.S e W base ok v xs) (ht : e ≠ 119) : some g ≠ v.ownBlock := by
  obtain ⟨A0, c0, hb, hg, hr0⟩ := h
  exact Kd.S_ne ho hb ht
theorem IsS119.lt {w0 W : World} {g : Nat} {f0 : List Int} {f1 : Int} {f2 : Int} (h : IsS119 w0 W g f0 f1 f2) : g < W.heap.size := by
  obtain ⟨A0, c0, hb, hg, hr0⟩ := h
  exact blk_lt hb
theorem IsS119.ge {w0 W : World} {g : Nat} {f0 : List Int} {f1 : Int} {f2 : Int} (h : IsS119 w0 W g f0 f1 f2) : w0.heap.size ≤ g := by
  obtain ⟨A0, c0, hb, hg, hr0⟩ := h
  exact hg
theorem IsS119.ne_blk {w0 W : World} {g : Nat} {f0 : List Int} {f1 : Int} {f2 : Int} {a : Nat} {cs : Array Value} {t : TypeId} {fr : Nat × Nat} (h : IsS119 w0 W g f0 f1 f2) (hb2 : W.heap[a]? = some (.cells cs t fr)) (ht : t ≠ 119) : g ≠ a := by
  obtain ⟨A0, c0, hb, hg, hr0⟩ := h
  rintro rfl
  rw [hb] at hb2
  injection hb2 with hb2
  injection hb2 with _ ht2
  exact ht ht2.symm
theorem IsS119.far {w0 W : World} {g : Nat} {f0 : List Int} {f1 : Int} {f2 : Int} {p : Addr} (h : IsS119 w0 W g f0 f1 f2) (hne : g ≠ p.block) (u : Value) : IsS119 w0 (W.setCell p u) g f0 f1 f2 := by
  obtain ⟨A0, c0, hb, hg, hr0⟩ := h
  exact ⟨A0, c0, blk_far hb hne u, hg, hr0⟩
theorem cellS119_0 {W : World} {g : Nat} {A0 : Option Addr} {c0 : Nat} {f0 : List Int} {f1 : Int} {f2 : Int} (h : W.heap[g]? = some (.cells #[.slice A0 f0.length c0, .int .i64 f1, .int .u64 f2] 119 (0, 0))) : W.cell? ⟨g, 0, none⟩ = some (.slice A0 f0.length c0) := (blk_cell h 0).trans rfl
theorem cellS119_1 {W : World} {g : Nat} {A0 : Option Addr} {c0 : Nat} {f0 : List Int} {f1 : Int} {f2 : Int} (h : W.heap[g]? = some (.cells #[.slice A0 f0.length c0, .int .i64 f1, .int .u64 f2] 119 (0, 0))) : W.cell? ⟨g, 1, none⟩ = some (.int .i64 f1) := (blk_cell h 1).trans rfl
theorem IsS119.set_1 {w0 W : World} {g : Nat} {f0 : List Int} {f1 : Int} {f2 : Int} (h : IsS119 w0 W g f0 f1 f2) (x : Int) : IsS119 w0 (W.setCell ⟨g, 1, none⟩ (.int .i64 x)) g f0 x f2 := by
  obtain ⟨A0, c0, hb, hg, hr0⟩ := h
  exact ⟨A0, c0, by simpa using blk_set hb 1 (.int .i64 x), hg, hr0⟩
theorem cellS119_2 {W : World} {g : Nat} {A0 : Option Addr} {c0 : Nat} {f0 : List Int} {f1 : Int} {f2 : Int} (h : W.heap[g]? = some (.cells #[.slice A0 f0.length c0, .int .i64 f1, .int .u64 f2] 119 (0, 0))) : W.cell? ⟨g, 2, none⟩ = some (.int .u64 f2) := (blk_cell h 2).trans rfl
theorem IsS119.set_2 {w0 W : World} {g : Nat} {f0 : List Int} {f1 : Int} {f2 : Int} (h : IsS119 w0 W g f0 f1 f2) (x : Int) : IsS119 w0 (W.setCell ⟨g, 2, none⟩ (.int .u64 x)) g f0 f1 x := by
  obtain ⟨A0, c0, hb, hg, hr0⟩ := h
  exact ⟨A0, c0, by simpa using blk_set hb 2 (.int .u64 x), hg, hr0⟩
theorem IsS119.new (w0 W : World) (A0 : Option Addr) (c0 : Nat) (f0 : List Int) (f1 : Int) (f2 : Int) (hB : Below w0.heap.size w0 W) (hr0 : Kd.C (Kd.int .u8) w0 A0 f0.length f0) : IsS119 w0 (W.alloc (.cells #[.slice A0 f0.length c0, .int .i64 f1, .int .u64 f2] 119)) W.heap.size f0 f1 f2 := ⟨A0, c0, by simpa using heap_alloc_new W _, hB.size, hr0⟩

/-! ### newCur: function 168 -/
def newCur.f (l0_0 : List Int) (a0_1 : Int) (a0_2 : Int) : Option (List Int × Int × Int) := some (l0_0, a0_1, a0_2)
set_option maxHeartbeats 8000000 in
set_option maxRecDepth 100000 in
theorem newCur.calls (A0_0 : Option Addr) (c0_0 : Nat) (l0_0 : List Int) (a0_1 : Int) (a0_2 : Int) (r1 : List Int) (r2 : Int) (r3 : Int) (w0 w : World) (hB : Below w0.heap.size w0 w) (hr0_0 : Kd.C (Kd.int .u8) w0 A0_0 l0_0.length l0_0) (hc0_0 : l0_0.length ≤ c0_0) (h : newCur.f l0_0 a0_1 a0_2 = some (r1, r2, r3)) :
    BoxCalls 119 #[.slice A0_0 l0_0.length c0_0, .int .i64 a0_1, .int .u64 a0_2] w fun e w' => ∃ g_ : Nat, e = .returned (.pointer (some ⟨g_, 0, none⟩)) ∧ IsS119 w0 w' g_ r1 r2 r3 ∧ Below w0.heap.size w0 w' ∧ Below w.heap.size w w' := by
  unfold newCur.f at h
  simp only [Option.some.injEq, Prod.mk.injEq] at h
  obtain ⟨rfl, rfl, rfl⟩ := h
  exact ⟨_, rfl, IsS119.new w0 w A0_0 c0_0 l0_0 a0_1 a0_2 hB hr0_0, hB.alloc hB.size _, below_alloc (Below.refl _ _) _⟩

end Go.Proofs.Ytgolcojhnklfdaa.Pr
-- Written by mkprint.py (a program of this repo, which drives the print.py of the kit): Lean checks it.
namespace Go.Proofs.Ytgolcojhnklfdaa.Pr
open Go.RowKit Go.Proofs.YtgolcojhnklfdaaW.PrintWords Go.Proofs.YtgolcojhnklfdaaW.PrintLast Go.Proofs.YtgolcojhnklfdaaW.PrintMore
attribute [local go_sem] max2_int min2_int max_two min_two max_three min_three max_four min_four   -- for this text's walks alone
set_option linter.unusedVariables false
set_option linter.unusedSimpArgs false

/-! ### spec_l1Cur_next: function 130 -/
def spec_l1Cur_next.f (s0_0 : List Int) (s0_1 : Int) (s0_2 : Int) : Option (Int × Int × Int) := if s0_1 < (s0_0.length : Int) then (if 0 ≤ s0_1 then (if (wrap64 (s0_1 + 1)) ≤ (s0_0.length : Int) then (some (wrap64 (rd s0_0 s0_1), wrap64 (s0_1 + 1), IntKind.u64.wrap ((IntKind.u64.wrap ((IntKind.u64.wrap (s0_2 * 6364136223846793005)) + (IntKind.u64.wrap (wrap64 (rd s0_0 s0_1))))) + 1442695040888963407))) else (some (wrap64 (Go.bits .and .u64 ((IntKind.u64.wrap ((IntKind.u64.wrap ((IntKind.u64.wrap (s0_2 * 6364136223846793005)) + (IntKind.u64.wrap (wrap64 (rd s0_0 s0_1))))) + 1442695040888963407)) / 1099511627776) 255), wrap64 (s0_1 + 1), IntKind.u64.wrap ((IntKind.u64.wrap ((IntKind.u64.wrap (s0_2 * 6364136223846793005)) + (IntKind.u64.wrap (wrap64 (rd s0_0 s0_1))))) + 1442695040888963407)))) else (none)) else (if (wrap64 (s0_1 + 1)) ≤ (s0_0.length : Int) then (some (0, wrap64 (s0_1 + 1), IntKind.u64.wrap ((IntKind.u64.wrap (IntKind.u64.wrap (s0_2 * 6364136223846793005))) + 1442695040888963407))) else (some (wrap64 (Go.bits .and .u64 ((IntKind.u64.wrap ((IntKind.u64.wrap (IntKind.u64.wrap (s0_2 * 6364136223846793005))) + 1442695040888963407)) / 1099511627776) 255), wrap64 (s0_1 + 1), IntKind.u64.wrap ((IntKind.u64.wrap (IntKind.u64.wrap (s0_2 * 6364136223846793005))) + 1442695040888963407))))
set_option maxHeartbeats 8000000 in
set_option maxRecDepth 100000 in
theorem spec_l1Cur_next.calls (g : Nat) (s0_0 : List Int) (s0_1 : Int) (s0_2 : Int) (r1 : Int) (r2 : Int) (r3 : Int) (w0 w : World) (hI : IsS119 w0 w g s0_0 s0_1 s0_2) (hB : Below w0.heap.size w0 w) (h : spec_l1Cur_next.f s0_0 s0_1 s0_2 = some (r1, r2, r3)) :
    Calls Try.prog 130 #[.pointer (some ⟨g, 0, none⟩)] w fun e w' => e = .returned (.int .i64 r1) ∧ IsS119 w0 w' g s0_0 r2 r3 ∧ Below w0.heap.size w0 w' ∧ KeepBut w w' g none := by
  have HI0 := Aside0.mk hI
  have HK := Aside0.mk (KeepBut.refl w g none)
  have HL := Aside0.mk hB.size
  clear hI
  have HW0 := Aside0.mk hB.size
  have HB := Aside0.mk hB
  clear hB
  have H : (if s0_1 < (s0_0.length : Int) then (if 0 ≤ s0_1 then (if (wrap64 (s0_1 + 1)) ≤ (s0_0.length : Int) then (some (wrap64 (rd s0_0 s0_1), wrap64 (s0_1 + 1), IntKind.u64.wrap ((IntKind.u64.wrap ((IntKind.u64.wrap (s0_2 * 6364136223846793005)) + (IntKind.u64.wrap (wrap64 (rd s0_0 s0_1))))) + 1442695040888963407))) else (some (wrap64 (Go.bits .and .u64 ((IntKind.u64.wrap ((IntKind.u64.wrap ((IntKind.u64.wrap (s0_2 * 6364136223846793005)) + (IntKind.u64.wrap (wrap64 (rd s0_0 s0_1))))) + 1442695040888963407)) / 1099511627776) 255), wrap64 (s0_1 + 1), IntKind.u64.wrap ((IntKind.u64.wrap ((IntKind.u64.wrap (s0_2 * 6364136223846793005)) + (IntKind.u64.wrap (wrap64 (rd s0_0 s0_1))))) + 1442695040888963407)))) else (none)) else (if (wrap64 (s0_1 + 1)) ≤ (s0_0.length : Int) then (some (0, wrap64 (s0_1 + 1), IntKind.u64.wrap ((IntKind.u64.wrap (IntKind.u64.wrap (s0_2 * 6364136223846793005))) + 1442695040888963407))) else (some (wrap64 (Go.bits .and .u64 ((IntKind.u64.wrap ((IntKind.u64.wrap (IntKind.u64.wrap (s0_2 * 6364136223846793005))) + 1442695040888963407)) / 1099511627776) 255), wrap64 (s0_1 + 1), IntKind.u64.wrap ((IntKind.u64.wrap (IntKind.u64.wrap (s0_2 * 6364136223846793005))) + 1442695040888963407))))) = some (r1, r2, r3) := h
  clear h
  by_cases c2 : s0_1 < (s0_0.length : Int)
  · rw [if_pos c2] at H
    have c2b0 : decide (s0_1 < (s0_0.length : Int)) = true := decide_eq_true c2
    clear c2
    by_cases c3 : 0 ≤ s0_1
    · rw [if_pos c3] at H
      have c3b0 : decide (0 ≤ s0_1) = true := decide_eq_true c3
      clear c3
      by_cases c4 : (wrap64 (s0_1 + 1)) ≤ (s0_0.length : Int)
      · rw [if_pos c4] at H
        have c4b0 : decide ((wrap64 (s0_1 + 1)) ≤ (s0_0.length : Int)) = true := decide_eq_true c4
        clear c4
        simp only [Option.some.injEq, Prod.mk.injEq] at H
        obtain ⟨rfl, rfl, rfl⟩ := H
        obtain ⟨ASz5_0, cSz5_0, HGz5, hgz5, HSz5_0⟩ := HI0.out
        have hcz5_0 := cellS119_0 HGz5
        have hcz5_1 := cellS119_1 HGz5
        have hcz5_2 := cellS119_2 HGz5
        have hfz5_1 := blk_frozen HGz5 1
        have hfz5_2 := blk_frozen HGz5 2
        clear HGz5 hgz5
        have p101 : 0 ≤ (s0_1 : Int) := of_decide_eq_true (by first | (with_reducible assumption) | assumption)
        have q101 : s0_1 < (s0_0.length : Int) := of_decide_eq_true (by first | (with_reducible assumption) | assumption)
        obtain ⟨ad101, e101, hx101_0⟩ := Kd.at_int HSz5_0 s0_1 p101 q101
        cases e101
        replace hx101_0 := pw_cell_below HB.out hx101_0
        replace p101 := eq_true p101
        replace q101 := eq_true q101
        go_enter Try.func130, Try.ntmps130
        go_wp2
        repeat (go_quiet (fail); try go_wp2)
        go_ret
        exact ⟨by first | rfl | (simp [errW_none, errW_some] <;> rfl) | (simp [*, errW_none, errW_some] <;> rfl), by repeat (first | (with_reducible first | exact HI0.out | apply IsS119.alloc | apply IsS119.drewN | apply IsS119.drew | apply IsS119.set_1 | apply IsS119.set_2) | exact HI0.out), by repeat (first | (with_reducible first | exact HB.out | apply below_alloc | apply pw_below_drewN | apply below_drew1 | refine below_set ?_ (IsS119.ge HI0.out)) | exact HB.out), by repeat (first | (with_reducible first | exact HK.out | apply KeepBut.set_ | apply keep_drewN | apply keep_drew | apply keep_alloc) | exact HK.out)⟩
      · rw [if_neg c4] at H
        have c4b0 : decide ((wrap64 (s0_1 + 1)) ≤ (s0_0.length : Int)) = false := decide_eq_false c4
        clear c4
        simp only [Option.some.injEq, Prod.mk.injEq] at H
        obtain ⟨rfl, rfl, rfl⟩ := H
        obtain ⟨ASz6_0, cSz6_0, HGz6, hgz6, HSz6_0⟩ := HI0.out
        have hcz6_0 := cellS119_0 HGz6
        have hcz6_1 := cellS119_1 HGz6
        have hcz6_2 := cellS119_2 HGz6
        have hfz6_1 := blk_frozen HGz6 1
        have hfz6_2 := blk_frozen HGz6 2
        clear HGz6 hgz6
        have p101 : 0 ≤ (s0_1 : Int) := of_decide_eq_true (by first | (with_reducible assumption) | assumption)
        have q101 : s0_1 < (s0_0.length : Int) := of_decide_eq_true (by first | (with_reducible assumption) | assumption)
        obtain ⟨ad101, e101, hx101_0⟩ := Kd.at_int HSz6_0 s0_1 p101 q101
        cases e101
        replace hx101_0 := pw_cell_below HB.out hx101_0
        replace p101 := eq_true p101
        replace q101 := eq_true q101
        go_enter Try.func130, Try.ntmps130
        go_wp2
        repeat (go_quiet (fail); try go_wp2)
        go_ret
        exact ⟨by first | rfl | (simp [errW_none, errW_some] <;> rfl) | (simp [*, errW_none, errW_some] <;> rfl), by repeat (first | (with_reducible first | exact HI0.out | apply IsS119.alloc | apply IsS119.drewN | apply IsS119.drew | apply IsS119.set_1 | apply IsS119.set_2) | exact HI0.out), by repeat (first | (with_reducible first | exact HB.out | apply below_alloc | apply pw_below_drewN | apply below_drew1 | refine below_set ?_ (IsS119.ge HI0.out)) | exact HB.out), by repeat (first | (with_reducible first | exact HK.out | apply KeepBut.set_ | apply keep_drewN | apply keep_drew | apply keep_alloc) | exact HK.out)⟩
    · rw [if_neg c3] at H
      exact absurd H (by simp)
  · rw [if_neg c2] at H
    have c2b0 : decide (s0_1 < (s0_0.length : Int)) = false := decide_eq_false c2
    clear c2
    by_cases c7 : (wrap64 (s0_1 + 1)) ≤ (s0_0.length : Int)
    · rw [if_pos c7] at H
      have c7b0 : decide ((wrap64 (s0_1 + 1)) ≤ (s0_0.length : Int)) = true := decide_eq_true c7
      clear c7
      simp only [Option.some.injEq, Prod.mk.injEq] at H
      obtain ⟨rfl, rfl, rfl⟩ := H
      obtain ⟨ASz8_0, cSz8_0, HGz8, hgz8, HSz8_0⟩ := HI0.out
      have hcz8_0 := cellS119_0 HGz8
      have hcz8_1 := cellS119_1 HGz8
      have hcz8_2 := cellS119_2 HGz8
      have hfz8_1 := blk_frozen HGz8 1
      have hfz8_2 := blk_frozen HGz8 2
      clear HGz8 hgz8
      go_enter Try.func130, Try.ntmps130
      go_wp2
      repeat (go_quiet (fail); try go_wp2)
      go_ret
      exact ⟨by first | rfl | (simp [errW_none, errW_some] <;> rfl) | (simp [*, errW_none, errW_some] <;> rfl), by repeat (first | (with_reducible first | exact HI0.out | apply IsS119.alloc | apply IsS119.drewN | apply IsS119.drew | apply IsS119.set_1 | apply IsS119.set_2) | exact HI0.out), by repeat (first | (with_reducible first | exact HB.out | apply below_alloc | apply pw_below_drewN | apply below_drew1 | refine below_set ?_ (IsS119.ge HI0.out)) | exact HB.out), by repeat (first | (with_reducible first | exact HK.out | apply KeepBut.set_ | apply keep_drewN | apply keep_drew | apply keep_alloc) | exact HK.out)⟩
    · rw [if_neg c7] at H
      have c7b0 : decide ((wrap64 (s0_1 + 1)) ≤ (s0_0.length : Int)) = false := decide_eq_false c7
      clear c7
      simp only [Option.some.injEq, Prod.mk.injEq] at H
      obtain ⟨rfl, rfl, rfl⟩ := H
      obtain ⟨ASz9_0, cSz9_0, HGz9, hgz9, HSz9_0⟩ := HI0.out
      have hcz9_0 := cellS119_0 HGz9
      have hcz9_1 := cellS119_1 HGz9
      have hcz9_2 := cellS119_2 HGz9
      have hfz9_1 := blk_frozen HGz9 1
      have hfz9_2 := blk_frozen HGz9 2
      clear HGz9 hgz9
      go_enter Try.func130, Try.ntmps130
      go_wp2
      repeat (go_quiet (fail); try go_wp2)
      go_ret
      exact ⟨by first | rfl | (simp [errW_none, errW_some] <;> rfl) | (simp [*, errW_none, errW_some] <;> rfl), by repeat (first | (with_reducible first | exact HI0.out | apply IsS119.alloc | apply IsS119.drewN | apply IsS119.drew | apply IsS119.set_1 | apply IsS119.set_2) | exact HI0.out), by repeat (first | (with_reducible first | exact HB.out | apply below_alloc | apply pw_below_drewN | apply below_drew1 | refine below_set ?_ (IsS119.ge HI0.out)) | exact HB.out), by repeat (first | (with_reducible first | exact HK.out | apply KeepBut.set_ | apply keep_drewN | apply keep_drew | apply keep_alloc) | exact HK.out)⟩

end Go.Proofs.Ytgolcojhnklfdaa.Pr
-- Written by mkprint.py (a program of this repo, which drives the print.py of the kit): Lean checks it.
namespace Go.Proofs.Ytgolcojhnklfdaa.Pr
open Go.RowKit Go.Proofs.YtgolcojhnklfdaaW.PrintWords Go.Proofs.YtgolcojhnklfdaaW.PrintLast Go.Proofs.YtgolcojhnklfdaaW.PrintMore
attribute [local go_sem] max2_int min2_int max_two min_two max_three min_three max_four min_four   -- for this text's walks alone
set_option linter.unusedVariables false
set_option linter.unusedSimpArgs false

/-! ### spec_l1Cur_pick: function 88 -/
def spec_l1Cur_pick.f (s0_0 : List Int) (s0_1 : Int) (s0_2 : Int) (a1 : Int) : Option (Int × Int × Int) := if a1 ≤ 1 then (some (0, s0_1, s0_2)) else ((spec_l1Cur_next.f s0_0 s0_1 s0_2).bind fun bt101 => (if a1 > 200 then ((spec_l1Cur_next.f s0_0 bt101.2.1 bt101.2.2).bind fun bt104 => (if a1 = 0 then (none) else (some (Int.tmod (wrap64 ((wrap64 (bt101.1 * 256)) + bt104.1)) a1, bt104.2.1, bt104.2.2)))) else (if a1 = 0 then (none) else (some (Int.tmod bt101.1 a1, bt101.2.1, bt101.2.2)))))
set_option maxHeartbeats 8000000 in
set_option maxRecDepth 100000 in
theorem spec_l1Cur_pick.calls (g : Nat) (s0_0 : List Int) (s0_1 : Int) (s0_2 : Int) (a1 : Int) (r1 : Int) (r2 : Int) (r3 : Int) (w0 w : World) (hI : IsS119 w0 w g s0_0 s0_1 s0_2) (hB : Below w0.heap.size w0 w) (h : spec_l1Cur_pick.f s0_0 s0_1 s0_2 a1 = some (r1, r2, r3)) :
    Calls Try.prog 88 #[.pointer (some ⟨g, 0, none⟩), .int .i64 a1] w fun e w' => e = .returned (.int .i64 r1) ∧ IsS119 w0 w' g s0_0 r2 r3 ∧ Below w0.heap.size w0 w' ∧ KeepBut w w' g none := by
  have HI0 := Aside0.mk hI
  have HK := Aside0.mk (KeepBut.refl w g none)
  have HL := Aside0.mk hB.size
  clear hI
  have HW0 := Aside0.mk hB.size
  have HB := Aside0.mk hB
  clear hB
  have H : (if a1 ≤ 1 then (some (0, s0_1, s0_2)) else ((spec_l1Cur_next.f s0_0 s0_1 s0_2).bind fun bt101 => (if a1 > 200 then ((spec_l1Cur_next.f s0_0 bt101.2.1 bt101.2.2).bind fun bt104 => (if a1 = 0 then (none) else (some (Int.tmod (wrap64 ((wrap64 (bt101.1 * 256)) + bt104.1)) a1, bt104.2.1, bt104.2.2)))) else (if a1 = 0 then (none) else (some (Int.tmod bt101.1 a1, bt101.2.1, bt101.2.2)))))) = some (r1, r2, r3) := h
  clear h
  by_cases c3 : a1 ≤ 1
  · rw [if_pos c3] at H
    have c3b0 : decide (a1 ≤ 1) = true := decide_eq_true c3
    clear c3
    simp only [Option.some.injEq, Prod.mk.injEq] at H
    obtain ⟨rfl, rfl, rfl⟩ := H
    go_enter Try.func88, Try.ntmps88
    go_wp2
    go_ret
    exact ⟨by first | rfl | (simp [errW_none, errW_some] <;> rfl) | (simp [*, errW_none, errW_some] <;> rfl), by repeat (first | (with_reducible first | exact HI0.out | apply IsS119.alloc | apply IsS119.drewN | apply IsS119.drew | apply IsS119.set_1 | apply IsS119.set_2) | exact HI0.out), by repeat (first | (with_reducible first | exact HB.out | apply below_alloc | apply pw_below_drewN | apply below_drew1 | refine below_set ?_ (IsS119.ge HI0.out)) | exact HB.out), by repeat (first | (with_reducible first | exact HK.out | apply KeepBut.set_ | apply keep_drewN | apply keep_drew | apply keep_alloc) | exact HK.out)⟩
  · rw [if_neg c3] at H
    have c3b0 : decide (a1 ≤ 1) = false := decide_eq_false c3
    clear c3
    replace H := Option.bind_eq_some_iff.mp H
    obtain ⟨⟨t101, t102, t103⟩, A40, H⟩ := H
    replace H : (if a1 > 200 then ((spec_l1Cur_next.f s0_0 t102 t103).bind fun bt104 => (if a1 = 0 then (none) else (some (Int.tmod (wrap64 ((wrap64 (t101 * 256)) + bt104.1)) a1, bt104.2.1, bt104.2.2)))) else (if a1 = 0 then (none) else (some (Int.tmod t101 a1, t102, t103)))) = some (r1, r2, r3) := H
    have A4 := Aside0.mk A40
    clear A40
    by_cases c5 : a1 > 200
    · rw [if_pos c5] at H
      have c5b0 : decide (200 < a1) = true := decide_eq_true c5
      clear c5
      replace H := Option.bind_eq_some_iff.mp H
      obtain ⟨⟨t104, t105, t106⟩, A60, H⟩ := H
      replace H : (if a1 = 0 then (none) else (some (Int.tmod (wrap64 ((wrap64 (t101 * 256)) + t104)) a1, t105, t106))) = some (r1, r2, r3) := H
      have A6 := Aside0.mk A60
      clear A60
      by_cases c7 : a1 = 0
      · rw [if_pos c7] at H
        exact absurd H (by simp)
      · rw [if_neg c7] at H
        have c7b0 : (a1 == 0) = false := beq_eq_false_iff_ne.mpr c7
        have c7b1 : (a1 != 0) = true := bne_iff_ne.mpr c7
        simp only [Option.some.injEq, Prod.mk.injEq] at H
        obtain ⟨rfl, rfl, rfl⟩ := H
        go_enter Try.func88, Try.ntmps88
        go_wp2_with (first | ((with_reducible refine gate_callee (f := 130) rfl ?_); refine goesL_ (some 9) rfl rfl Try.func130 (by kernel_rfl) rfl #[.pointer (some ⟨g, 0, none⟩)] rfl (by (try simp only [List.map_toArray, List.map_cons, List.map_nil]); first | done | rfl | (simp only [List.length_drop, List.length_take]; rfl)) ?_; (with_reducible refine (spec_l1Cur_next.calls g s0_0 s0_1 s0_2 t101 t102 t103 w0 _ ?side1 ?side2 A4.out).mono ?_); (case side1 => repeat (first | (with_reducible first | exact HI0.out | apply IsS119.alloc | apply IsS119.drewN | apply IsS119.drew | apply IsS119.set_1 | apply IsS119.set_2) | exact HI0.out)); (case side2 => repeat (first | (with_reducible first | exact HB.out | apply below_alloc | apply pw_below_drewN | apply below_drew1 | refine below_set ?_ (IsS119.ge HI0.out)) | exact HB.out)); rintro e w8 ⟨rfl, hi, hb, hk⟩; refine ⟨_, rfl, ?_⟩; have n0_ := Aside0.mk (KeepBut.trans (by repeat (first | (with_reducible first | exact HK.out | apply KeepBut.set_ | apply keep_drewN | apply keep_drew | apply keep_alloc) | exact HK.out)) hk (.inl rfl)); have n1_ := Aside0.mk (hb); have n2_ := Aside0.mk (hi); clear HK; clear HB; clear HI0; have HK := n0_; have HB := n1_; have HI0 := n2_; clear n0_ n1_ n2_; (try clear hb); (try clear hb2); (try clear hk); (try clear hi)) | ((with_reducible refine gate_callee (f := 130) rfl ?_); refine goesL_ (some 15) rfl rfl Try.func130 (by kernel_rfl) rfl #[.pointer (some ⟨g, 0, none⟩)] rfl (by (try simp only [List.map_toArray, List.map_cons, List.map_nil]); first | done | rfl | (simp only [List.length_drop, List.length_take]; rfl)) ?_; (with_reducible refine (spec_l1Cur_next.calls g s0_0 t102 t103 t104 t105 t106 w0 _ ?side1 ?side2 A6.out).mono ?_); (case side1 => repeat (first | (with_reducible first | exact HI0.out | apply IsS119.alloc | apply IsS119.drewN | apply IsS119.drew | apply IsS119.set_1 | apply IsS119.set_2) | exact HI0.out)); (case side2 => repeat (first | (with_reducible first | exact HB.out | apply below_alloc | apply pw_below_drewN | apply below_drew1 | refine below_set ?_ (IsS119.ge HI0.out)) | exact HB.out)); rintro e w9 ⟨rfl, hi, hb, hk⟩; refine ⟨_, rfl, ?_⟩; have n0_ := Aside0.mk (KeepBut.trans (by repeat (first | (with_reducible first | exact HK.out | apply KeepBut.set_ | apply keep_drewN | apply keep_drew | apply keep_alloc) | exact HK.out)) hk (.inl rfl)); have n1_ := Aside0.mk (hb); have n2_ := Aside0.mk (hi); clear HK; clear HB; clear HI0; have HK := n0_; have HB := n1_; have HI0 := n2_; clear n0_ n1_ n2_; (try clear hb); (try clear hb2); (try clear hk); (try clear hi)))
        go_ret
        exact ⟨by first | rfl | (simp [errW_none, errW_some] <;> rfl) | (simp [*, errW_none, errW_some] <;> rfl), by repeat (first | (with_reducible first | exact HI0.out | apply IsS119.alloc | apply IsS119.drewN | apply IsS119.drew | apply IsS119.set_1 | apply IsS119.set_2) | exact HI0.out), by repeat (first | (with_reducible first | exact HB.out | apply below_alloc | apply pw_below_drewN | apply below_drew1 | refine below_set ?_ (IsS119.ge HI0.out)) | exact HB.out), by repeat (first | (with_reducible first | exact HK.out | apply KeepBut.set_ | apply keep_drewN | apply keep_drew | apply keep_alloc) | exact HK.out)⟩
    · rw [if_neg c5] at H
      have c5b0 : decide (200 < a1) = false := decide_eq_false c5
      clear c5
      by_cases c10 : a1 = 0
      · rw [if_pos c10] at H
        exact absurd H (by simp)
      · rw [if_neg c10] at H
        have c10b0 : (a1 == 0) = false := beq_eq_false_iff_ne.mpr c10
        have c10b1 : (a1 != 0) = true := bne_iff_ne.mpr c10
        simp only [Option.some.injEq, Prod.mk.injEq] at H
        obtain ⟨rfl, rfl, rfl⟩ := H
        go_enter Try.func88, Try.ntmps88
        go_wp2_with (first | ((with_reducible refine gate_callee (f := 130) rfl ?_); refine goesL_ (some 9) rfl rfl Try.func130 (by kernel_rfl) rfl #[.pointer (some ⟨g, 0, none⟩)] rfl (by (try simp only [List.map_toArray, List.map_cons, List.map_nil]); first | done | rfl | (simp only [List.length_drop, List.length_take]; rfl)) ?_; (with_reducible refine (spec_l1Cur_next.calls g s0_0 s0_1 s0_2 t101 t102 t103 w0 _ ?side1 ?side2 A4.out).mono ?_); (case side1 => repeat (first | (with_reducible first | exact HI0.out | apply IsS119.alloc | apply IsS119.drewN | apply IsS119.drew | apply IsS119.set_1 | apply IsS119.set_2) | exact HI0.out)); (case side2 => repeat (first | (with_reducible first | exact HB.out | apply below_alloc | apply pw_below_drewN | apply below_drew1 | refine below_set ?_ (IsS119.ge HI0.out)) | exact HB.out)); rintro e w11 ⟨rfl, hi, hb, hk⟩; refine ⟨_, rfl, ?_⟩; have n0_ := Aside0.mk (KeepBut.trans (by repeat (first | (with_reducible first | exact HK.out | apply KeepBut.set_ | apply keep_drewN | apply keep_drew | apply keep_alloc) | exact HK.out)) hk (.inl rfl)); have n1_ := Aside0.mk (hb); have n2_ := Aside0.mk (hi); clear HK; clear HB; clear HI0; have HK := n0_; have HB := n1_; have HI0 := n2_; clear n0_ n1_ n2_; (try clear hb); (try clear hb2); (try clear hk); (try clear hi)))
        go_ret
        exact ⟨by first | rfl | (simp [errW_none, errW_some] <;> rfl) | (simp [*, errW_none, errW_some] <;> rfl), by repeat (first | (with_reducible first | exact HI0.out | apply IsS119.alloc | apply IsS119.drewN | apply IsS119.drew | apply IsS119.set_1 | apply IsS119.set_2) | exact HI0.out), by repeat (first | (with_reducible first | exact HB.out | apply below_alloc | apply pw_below_drewN | apply below_drew1 | refine below_set ?_ (IsS119.ge HI0.out)) | exact HB.out), by repeat (first | (with_reducible first | exact HK.out | apply KeepBut.set_ | apply keep_drewN | apply keep_drew | apply keep_alloc) | exact HK.out)⟩

end Go.Proofs.Ytgolcojhnklfdaa.Pr
-- Written by mkprint.py (a program of this repo, which drives the print.py of the kit): Lean checks it.
namespace Go.Proofs.Ytgolcojhnklfdaa.Pr
open Go.RowKit Go.Proofs.YtgolcojhnklfdaaW.PrintWords Go.Proofs.YtgolcojhnklfdaaW.PrintLast Go.Proofs.YtgolcojhnklfdaaW.PrintMore
attribute [local go_sem] max2_int min2_int max_two min_two max_three min_three max_four min_four   -- for this text's walks alone
set_option linter.unusedVariables false
set_option linter.unusedSimpArgs false

/-! ### spec_l1Cur_one: function 90 -/
def spec_l1Cur_one.f (s0_0 : List Int) (s0_1 : Int) (s0_2 : Int) (a1 : Int) : Option (Bool × Int × Int) := (spec_l1Cur_pick.f s0_0 s0_1 s0_2 a1).bind fun bt101 => (some ((bt101.1 == 0), bt101.2.1, bt101.2.2))
set_option maxHeartbeats 8000000 in
set_option maxRecDepth 100000 in
theorem spec_l1Cur_one.calls (g : Nat) (s0_0 : List Int) (s0_1 : Int) (s0_2 : Int) (a1 : Int) (r1 : Bool) (r2 : Int) (r3 : Int) (w0 w : World) (hI : IsS119 w0 w g s0_0 s0_1 s0_2) (hB : Below w0.heap.size w0 w) (h : spec_l1Cur_one.f s0_0 s0_1 s0_2 a1 = some (r1, r2, r3)) :
    Calls Try.prog 90 #[.pointer (some ⟨g, 0, none⟩), .int .i64 a1] w fun e w' => e = .returned (.bool r1) ∧ IsS119 w0 w' g s0_0 r2 r3 ∧ Below w0.heap.size w0 w' ∧ KeepBut w w' g none := by
  have HI0 := Aside0.mk hI
  have HK := Aside0.mk (KeepBut.refl w g none)
  have HL := Aside0.mk hB.size
  clear hI
  have HW0 := Aside0.mk hB.size
  have HB := Aside0.mk hB
  clear hB
  have H : ((spec_l1Cur_pick.f s0_0 s0_1 s0_2 a1).bind fun bt101 => (some ((bt101.1 == 0), bt101.2.1, bt101.2.2))) = some (r1, r2, r3) := h
  clear h
  replace H := Option.bind_eq_some_iff.mp H
  obtain ⟨⟨t101, t102, t103⟩, A30, H⟩ := H
  replace H : (some ((t101 == 0), t102, t103)) = some (r1, r2, r3) := H
  have A3 := Aside0.mk A30
  clear A30
  simp only [Option.some.injEq, Prod.mk.injEq] at H
  obtain ⟨rfl, rfl, rfl⟩ := H
  go_enter Try.func90, Try.ntmps90
  go_wp2_with (first | ((with_reducible refine gate_callee (f := 88) rfl ?_); refine goesL_ (some 7) rfl rfl Try.func88 (by kernel_rfl) rfl #[.pointer (some ⟨g, 0, none⟩), .int .i64 a1] rfl (by (try simp only [List.map_toArray, List.map_cons, List.map_nil]); first | done | rfl | (simp only [List.length_drop, List.length_take]; rfl)) ?_; (with_reducible refine (spec_l1Cur_pick.calls g s0_0 s0_1 s0_2 a1 t101 t102 t103 w0 _ ?side1 ?side2 A3.out).mono ?_); (case side1 => repeat (first | (with_reducible first | exact HI0.out | apply IsS119.alloc | apply IsS119.drewN | apply IsS119.drew | apply IsS119.set_1 | apply IsS119.set_2) | exact HI0.out)); (case side2 => repeat (first | (with_reducible first | exact HB.out | apply below_alloc | apply pw_below_drewN | apply below_drew1 | refine below_set ?_ (IsS119.ge HI0.out)) | exact HB.out)); rintro e w4 ⟨rfl, hi, hb, hk⟩; refine ⟨_, rfl, ?_⟩; have n0_ := Aside0.mk (KeepBut.trans (by repeat (first | (with_reducible first | exact HK.out | apply KeepBut.set_ | apply keep_drewN | apply keep_drew | apply keep_alloc) | exact HK.out)) hk (.inl rfl)); have n1_ := Aside0.mk (hb); have n2_ := Aside0.mk (hi); clear HK; clear HB; clear HI0; have HK := n0_; have HB := n1_; have HI0 := n2_; clear n0_ n1_ n2_; (try clear hb); (try clear hb2); (try clear hk); (try clear hi)))
  go_ret
  exact ⟨by first | rfl | (simp [errW_none, errW_some] <;> rfl) | (simp [*, errW_none, errW_some] <;> rfl), by repeat (first | (with_reducible first | exact HI0.out | apply IsS119.alloc | apply IsS119.drewN | apply IsS119.drew | apply IsS119.set_1 | apply IsS119.set_2) | exact HI0.out), by repeat (first | (with_reducible first | exact HB.out | apply below_alloc | apply pw_below_drewN | apply below_drew1 | refine below_set ?_ (IsS119.ge HI0.out)) | exact HB.out), by repeat (first | (with_reducible first | exact HK.out | apply KeepBut.set_ | apply keep_drewN | apply keep_drew | apply keep_alloc) | exact HK.out)⟩

end Go.Proofs.Ytgolcojhnklfdaa.Pr
-- Written by mkprint.py (a program of this repo, which drives the print.py of the kit): Lean checks it.
namespace Go.Proofs.Ytgolcojhnklfdaa.Pr
open Go.RowKit Go.Proofs.YtgolcojhnklfdaaW.PrintWords Go.Proofs.YtgolcojhnklfdaaW.PrintLast Go.Proofs.YtgolcojhnklfdaaW.PrintMore
attribute [local go_sem] max2_int min2_int max_two min_two max_three min_three max_four min_four   -- for this text's walks alone
set_option linter.unusedVariables false
set_option linter.unusedSimpArgs false

/-! ### spec_l1Cur_secret: function 92 -/
def spec_l1Cur_secret.f (s0_0 : List Int) (s0_1 : Int) (s0_2 : Int) : Option (Int × Int × Int) := (spec_l1Cur_one.f s0_0 s0_1 s0_2 16).bind fun bt101 => (if bt101.1 = true then ((some (([0, (-1), 1, 1073741788, 1073741789, 1073741794] : List Int) : List Int)).bind fun y104 => ((spec_l1Cur_pick.f s0_0 bt101.2.1 bt101.2.2 6).bind fun bt107 => (if 0 ≤ bt107.1 then (if bt107.1 < (y104.length : Int) then (some (rd y104 bt107.1, bt107.2.1, bt107.2.2)) else (none)) else (none)))) else ((spec_l1Cur_pick.f s0_0 bt101.2.1 bt101.2.2 60000).bind fun bt111 => ((spec_l1Cur_pick.f s0_0 bt111.2.1 bt111.2.2 60000).bind fun bt114 => (some (wrap64 (1 + (Int.tmod (wrap64 ((wrap64 (bt111.1 * 60000)) + bt114.1)) 1073741788)), bt114.2.1, bt114.2.2)))))
set_option maxHeartbeats 8000000 in
set_option maxRecDepth 100000 in
theorem spec_l1Cur_secret.calls (g : Nat) (s0_0 : List Int) (s0_1 : Int) (s0_2 : Int) (r1 : Int) (r2 : Int) (r3 : Int) (w0 w : World) (hI : IsS119 w0 w g s0_0 s0_1 s0_2) (hB : Below w0.heap.size w0 w) (h : spec_l1Cur_secret.f s0_0 s0_1 s0_2 = some (r1, r2, r3)) :
    Calls Try.prog 92 #[.pointer (some ⟨g, 0, none⟩)] w fun e w' => e = .returned (.int .i64 r1) ∧ IsS119 w0 w' g s0_0 r2 r3 ∧ Below w0.heap.size w0 w' ∧ KeepBut w w' g none := by
  have HI0 := Aside0.mk hI
  have HK := Aside0.mk (KeepBut.refl w g none)
  have HL := Aside0.mk hB.size
  clear hI
  have HW0 := Aside0.mk hB.size
  have HB := Aside0.mk hB
  clear hB
  have H : ((spec_l1Cur_one.f s0_0 s0_1 s0_2 16).bind fun bt101 => (if bt101.1 = true then ((some (([0, (-1), 1, 1073741788, 1073741789, 1073741794] : List Int) : List Int)).bind fun y104 => ((spec_l1Cur_pick.f s0_0 bt101.2.1 bt101.2.2 6).bind fun bt107 => (if 0 ≤ bt107.1 then (if bt107.1 < (y104.length : Int) then (some (rd y104 bt107.1, bt107.2.1, bt107.2.2)) else (none)) else (none)))) else ((spec_l1Cur_pick.f s0_0 bt101.2.1 bt101.2.2 60000).bind fun bt111 => ((spec_l1Cur_pick.f s0_0 bt111.2.1 bt111.2.2 60000).bind fun bt114 => (some (wrap64 (1 + (Int.tmod (wrap64 ((wrap64 (bt111.1 * 60000)) + bt114.1)) 1073741788)), bt114.2.1, bt114.2.2)))))) = some (r1, r2, r3) := h
  clear h
  replace H := Option.bind_eq_some_iff.mp H
  obtain ⟨⟨t101, t102, t103⟩, A20, H⟩ := H
  replace H : (if t101 = true then ((some (([0, (-1), 1, 1073741788, 1073741789, 1073741794] : List Int) : List Int)).bind fun y104 => ((spec_l1Cur_pick.f s0_0 t102 t103 6).bind fun bt107 => (if 0 ≤ bt107.1 then (if bt107.1 < (y104.length : Int) then (some (rd y104 bt107.1, bt107.2.1, bt107.2.2)) else (none)) else (none)))) else ((spec_l1Cur_pick.f s0_0 t102 t103 60000).bind fun bt111 => ((spec_l1Cur_pick.f s0_0 bt111.2.1 bt111.2.2 60000).bind fun bt114 => (some (wrap64 (1 + (Int.tmod (wrap64 ((wrap64 (bt111.1 * 60000)) + bt114.1)) 1073741788)), bt114.2.1, bt114.2.2))))) = some (r1, r2, r3) := H
  have A2 := Aside0.mk A20
  clear A20
  by_cases c3 : t101 = true
  · subst c3
    have H1 : ((some (([0, (-1), 1, 1073741788, 1073741789, 1073741794] : List Int) : List Int)).bind fun y104 => ((spec_l1Cur_pick.f s0_0 t102 t103 6).bind fun bt107 => (if 0 ≤ bt107.1 then (if bt107.1 < (y104.length : Int) then (some (rd y104 bt107.1, bt107.2.1, bt107.2.2)) else (none)) else (none)))) = some (r1, r2, r3) := by rw [if_pos rfl] at H; exact H
    clear H
    have H := H1
    clear H1
    obtain ⟨y104, hy104⟩ : ∃ y_ : List Int, y_ = (([0, (-1), 1, 1073741788, 1073741789, 1073741794] : List Int)) := ⟨_, rfl⟩
    replace H : ((spec_l1Cur_pick.f s0_0 t102 t103 6).bind fun bt107 => (if 0 ≤ bt107.1 then (if bt107.1 < (y104.length : Int) then (some (rd y104 bt107.1, bt107.2.1, bt107.2.2)) else (none)) else (none))) = some (r1, r2, r3) := by first | (rw [hy104]; with_reducible exact H) | (have H2_ := (Option.bind_some _ _).symm.trans H; rw [hy104]; with_reducible exact H2_) | (have H2_ := (Option.bind_some _ _).symm.trans H; with_reducible exact H2_) | with_reducible exact H | (rw [hy104]; exact H) | exact H
    have Ny104 := Aside0.mk hy104
    clear hy104
    replace H := Option.bind_eq_some_iff.mp H
    obtain ⟨⟨t107, t108, t109⟩, A40, H⟩ := H
    replace H : (if 0 ≤ t107 then (if t107 < (y104.length : Int) then (some (rd y104 t107, t108, t109)) else (none)) else (none)) = some (r1, r2, r3) := H
    have A4 := Aside0.mk A40
    clear A40
    by_cases c5 : 0 ≤ t107
    · rw [if_pos c5] at H
      have c5b0 : decide (0 ≤ t107) = true := decide_eq_true c5
      clear c5
      by_cases c6 : t107 < (y104.length : Int)
      · rw [if_pos c6] at H
        have c6b0 : decide (t107 < (y104.length : Int)) = true := decide_eq_true c6
        clear c6
        simp only [Option.some.injEq, Prod.mk.injEq] at H
        obtain ⟨rfl, rfl, rfl⟩ := H
        go_enter Try.func92, Try.ntmps92
        go_wp2_with (first | ((with_reducible refine gate_callee (f := 90) rfl ?_); refine goesL_ (some 4) rfl rfl Try.func90 (by kernel_rfl) rfl #[.pointer (some ⟨g, 0, none⟩), .int .i64 16] rfl (by (try simp only [List.map_toArray, List.map_cons, List.map_nil]); first | done | rfl | (simp only [List.length_drop, List.length_take]; rfl)) ?_; (with_reducible refine (spec_l1Cur_one.calls g s0_0 s0_1 s0_2 16 true t102 t103 w0 _ ?side1 ?side2 A2.out).mono ?_); (case side1 => repeat (first | (with_reducible first | exact HI0.out | apply IsS119.alloc | apply IsS119.drewN | apply IsS119.drew | apply IsS119.set_1 | apply IsS119.set_2) | exact HI0.out)); (case side2 => repeat (first | (with_reducible first | exact HB.out | apply below_alloc | apply pw_below_drewN | apply below_drew1 | refine below_set ?_ (IsS119.ge HI0.out)) | exact HB.out)); rintro e w7 ⟨rfl, hi, hb, hk⟩; refine ⟨_, rfl, ?_⟩; have n0_ := Aside0.mk (KeepBut.trans (by repeat (first | (with_reducible first | exact HK.out | apply KeepBut.set_ | apply keep_drewN | apply keep_drew | apply keep_alloc) | exact HK.out)) hk (.inl rfl)); have n1_ := Aside0.mk (hb); have n2_ := Aside0.mk (hi); clear HK; clear HB; clear HI0; have HK := n0_; have HB := n1_; have HI0 := n2_; clear n0_ n1_ n2_; (try clear hb); (try clear hb2); (try clear hk); (try clear hi)) | ((with_reducible refine gate_dst (N := 5) rfl ?_); refine Kd.R_lit (Kd.int .i64) _ 3 ?hg (N := 5) ?hd (xs := ([0, (-1), 1, 1073741788, 1073741789, 1073741794] : List Int)) (inner := [.int .i64 0, .int .i64 (-1), .int .i64 1, .int .i64 1073741788, .int .i64 1073741789, .int .i64 1073741794]) (ok := fun _ => True) (okp := fun _ => True) ?hr ?hp (fun _ hk => hk) trivial (Below.refl _ _) (Nat.le_refl _) (by simp) ?_; (case hd => rfl); (case hg => rfl); (case hr => first | (go_simp; done) | (go_simp; rfl)); (case hp => exact (Reps.one (show Kd.M (Kd.int .i64) _ _ _ 0 [.int .i64 0] from rfl) (Reps.one (show Kd.M (Kd.int .i64) _ _ _ (-1) [.int .i64 (-1)] from rfl) (Reps.one (show Kd.M (Kd.int .i64) _ _ _ 1 [.int .i64 1] from rfl) (Reps.one (show Kd.M (Kd.int .i64) _ _ _ 1073741788 [.int .i64 1073741788] from rfl) (Reps.one (show Kd.M (Kd.int .i64) _ _ _ 1073741789 [.int .i64 1073741789] from rfl) (Reps.one (show Kd.M (Kd.int .i64) _ _ _ 1073741794 [.int .i64 1073741794] from rfl) (Reps.none _ _)))))))); intro v105 w8 ho9 hb hg_ hnew_; clear hg_ hnew_; (first | rw [← Ny104.out] at ho9 | (simp only [Int.reduceToNat] at ho9; rw [← Ny104.out] at ho9)); have n0_ := Aside0.mk (Kd.R_lower ho9 (keep_size (w := w) (g := g) (row := none) (by repeat (first | (with_reducible first | exact HK.out | apply KeepBut.set_ | apply keep_drewN | apply keep_drew | apply keep_alloc) | exact HK.out)))); have n1_ := Aside0.mk (IsS119.below (by repeat (first | (with_reducible first | exact HI0.out | apply IsS119.alloc | apply IsS119.drewN | apply IsS119.drew | apply IsS119.set_1 | apply IsS119.set_2) | exact HI0.out)) hb); have n2_ := Aside0.mk (KeepBut.trans (by repeat (first | (with_reducible first | exact HK.out | apply KeepBut.set_ | apply keep_drewN | apply keep_drew | apply keep_alloc) | exact HK.out)) (KeepBut.of_below hb g none) (.inl rfl)); have n3_ := Aside0.mk (below_step (by repeat (first | (with_reducible first | exact HB.out | apply below_alloc | apply pw_below_drewN | apply below_drew1 | refine below_set ?_ (IsS119.ge HI0.out)) | exact HB.out)) hb); clear HI0; clear HK; clear HB; have HO106 := n0_; have HI0 := n1_; have HK := n2_; have HB := n3_; clear n0_ n1_ n2_ n3_; clear hb ho9) | ((with_reducible refine gate_callee (f := 88) rfl ?_); refine goesL_ (some 7) rfl rfl Try.func88 (by kernel_rfl) rfl #[.pointer (some ⟨g, 0, none⟩), .int .i64 6] rfl (by (try simp only [List.map_toArray, List.map_cons, List.map_nil]); first | done | rfl | (simp only [List.length_drop, List.length_take]; rfl)) ?_; (with_reducible refine (spec_l1Cur_pick.calls g s0_0 t102 t103 6 t107 t108 t109 w0 _ ?side1 ?side2 A4.out).mono ?_); (case side1 => repeat (first | (with_reducible first | exact HI0.out | apply IsS119.alloc | apply IsS119.drewN | apply IsS119.drew | apply IsS119.set_1 | apply IsS119.set_2) | exact HI0.out)); (case side2 => repeat (first | (with_reducible first | exact HB.out | apply below_alloc | apply pw_below_drewN | apply below_drew1 | refine below_set ?_ (IsS119.ge HI0.out)) | exact HB.out)); rintro e w10 ⟨rfl, hi, hb, hk⟩; refine ⟨_, rfl, ?_⟩; have n0_ := Aside0.mk (Kd.R_mono (Kd.R_keep (IsS119.apart (show IsS119 w0 _ g s0_0 t102 t103 from by repeat (first | (with_reducible first | exact HI0.out | apply IsS119.alloc | apply IsS119.drewN | apply IsS119.drew | apply IsS119.set_1 | apply IsS119.set_2) | exact HI0.out)) (by (with_reducible repeat (first | apply Kd.R_alloc | apply Kd.R_drewN | apply Kd.R_drew)); exact HO106.out) (by decide)) hk (fun _ h => h.2)) (fun _ h => h.1)); have n1_ := Aside0.mk (KeepBut.trans (by repeat (first | (with_reducible first | exact HK.out | apply KeepBut.set_ | apply keep_drewN | apply keep_drew | apply keep_alloc) | exact HK.out)) hk (.inl rfl)); have n2_ := Aside0.mk (hb); have n3_ := Aside0.mk (hi); clear HO106; clear HK; clear HB; clear HI0; have HO106 := n0_; have HK := n1_; have HB := n2_; have HI0 := n3_; clear n0_ n1_ n2_ n3_; (try clear hb); (try clear hb2); (try clear hk); (try clear hi); obtain ⟨Ao11, co11, eo11⟩ := Kd.R_slice HO106.out; subst eo11; have p110 : 0 ≤ (t107 : Int) := of_decide_eq_true (by first | (with_reducible assumption) | assumption); have q110 : t107 < (y104.length : Int) := of_decide_eq_true (by first | (with_reducible assumption) | assumption); obtain ⟨ad110, e110, hx110_0⟩ := Kd.at_int (Kd.R_reads' HO106.out).2.2 t107 p110 q110; cases e110; replace p110 := eq_true p110; replace q110 := eq_true q110))
        go_ret
        exact ⟨by first | rfl | (simp [errW_none, errW_some] <;> rfl) | (simp [*, errW_none, errW_some] <;> rfl), by repeat (first | (with_reducible first | exact HI0.out | apply IsS119.alloc | apply IsS119.drewN | apply IsS119.drew | apply IsS119.set_1 | apply IsS119.set_2) | exact HI0.out), by repeat (first | (with_reducible first | exact HB.out | apply below_alloc | apply pw_below_drewN | apply below_drew1 | refine below_set ?_ (IsS119.ge HI0.out)) | exact HB.out), by repeat (first | (with_reducible first | exact HK.out | apply KeepBut.set_ | apply keep_drewN | apply keep_drew | apply keep_alloc) | exact HK.out)⟩
      · rw [if_neg c6] at H
        exact absurd H (by simp)
    · rw [if_neg c5] at H
      exact absurd H (by simp)
  · replace c3 := Bool.eq_false_iff.mpr c3
    subst c3
    have H1 : ((spec_l1Cur_pick.f s0_0 t102 t103 60000).bind fun bt111 => ((spec_l1Cur_pick.f s0_0 bt111.2.1 bt111.2.2 60000).bind fun bt114 => (some (wrap64 (1 + (Int.tmod (wrap64 ((wrap64 (bt111.1 * 60000)) + bt114.1)) 1073741788)), bt114.2.1, bt114.2.2)))) = some (r1, r2, r3) := by rw [if_neg (show ¬ (false = true) by decide)] at H; exact H
    clear H
    have H := H1
    clear H1
    replace H := Option.bind_eq_some_iff.mp H
    obtain ⟨⟨t111, t112, t113⟩, A120, H⟩ := H
    replace H : ((spec_l1Cur_pick.f s0_0 t112 t113 60000).bind fun bt114 => (some (wrap64 (1 + (Int.tmod (wrap64 ((wrap64 (t111 * 60000)) + bt114.1)) 1073741788)), bt114.2.1, bt114.2.2))) = some (r1, r2, r3) := H
    have A12 := Aside0.mk A120
    clear A120
    replace H := Option.bind_eq_some_iff.mp H
    obtain ⟨⟨t114, t115, t116⟩, A130, H⟩ := H
    replace H : (some (wrap64 (1 + (Int.tmod (wrap64 ((wrap64 (t111 * 60000)) + t114)) 1073741788)), t115, t116)) = some (r1, r2, r3) := H
    have A13 := Aside0.mk A130
    clear A130
    simp only [Option.some.injEq, Prod.mk.injEq] at H
    obtain ⟨rfl, rfl, rfl⟩ := H
    go_enter Try.func92, Try.ntmps92
    go_wp2_with (first | ((with_reducible refine gate_callee (f := 90) rfl ?_); refine goesL_ (some 4) rfl rfl Try.func90 (by kernel_rfl) rfl #[.pointer (some ⟨g, 0, none⟩), .int .i64 16] rfl (by (try simp only [List.map_toArray, List.map_cons, List.map_nil]); first | done | rfl | (simp only [List.length_drop, List.length_take]; rfl)) ?_; (with_reducible refine (spec_l1Cur_one.calls g s0_0 s0_1 s0_2 16 false t102 t103 w0 _ ?side1 ?side2 A2.out).mono ?_); (case side1 => repeat (first | (with_reducible first | exact HI0.out | apply IsS119.alloc | apply IsS119.drewN | apply IsS119.drew | apply IsS119.set_1 | apply IsS119.set_2) | exact HI0.out)); (case side2 => repeat (first | (with_reducible first | exact HB.out | apply below_alloc | apply pw_below_drewN | apply below_drew1 | refine below_set ?_ (IsS119.ge HI0.out)) | exact HB.out)); rintro e w14 ⟨rfl, hi, hb, hk⟩; refine ⟨_, rfl, ?_⟩; have n0_ := Aside0.mk (KeepBut.trans (by repeat (first | (with_reducible first | exact HK.out | apply KeepBut.set_ | apply keep_drewN | apply keep_drew | apply keep_alloc) | exact HK.out)) hk (.inl rfl)); have n1_ := Aside0.mk (hb); have n2_ := Aside0.mk (hi); clear HK; clear HB; clear HI0; have HK := n0_; have HB := n1_; have HI0 := n2_; clear n0_ n1_ n2_; (try clear hb); (try clear hb2); (try clear hk); (try clear hi)) | ((with_reducible refine gate_callee (f := 88) rfl ?_); refine goesL_ (some 11) rfl rfl Try.func88 (by kernel_rfl) rfl #[.pointer (some ⟨g, 0, none⟩), .int .i64 60000] rfl (by (try simp only [List.map_toArray, List.map_cons, List.map_nil]); first | done | rfl | (simp only [List.length_drop, List.length_take]; rfl)) ?_; (with_reducible refine (spec_l1Cur_pick.calls g s0_0 t102 t103 60000 t111 t112 t113 w0 _ ?side1 ?side2 A12.out).mono ?_); (case side1 => repeat (first | (with_reducible first | exact HI0.out | apply IsS119.alloc | apply IsS119.drewN | apply IsS119.drew | apply IsS119.set_1 | apply IsS119.set_2) | exact HI0.out)); (case side2 => repeat (first | (with_reducible first | exact HB.out | apply below_alloc | apply pw_below_drewN | apply below_drew1 | refine below_set ?_ (IsS119.ge HI0.out)) | exact HB.out)); rintro e w15 ⟨rfl, hi, hb, hk⟩; refine ⟨_, rfl, ?_⟩; have n0_ := Aside0.mk (KeepBut.trans (by repeat (first | (with_reducible first | exact HK.out | apply KeepBut.set_ | apply keep_drewN | apply keep_drew | apply keep_alloc) | exact HK.out)) hk (.inl rfl)); have n1_ := Aside0.mk (hb); have n2_ := Aside0.mk (hi); clear HK; clear HB; clear HI0; have HK := n0_; have HB := n1_; have HI0 := n2_; clear n0_ n1_ n2_; (try clear hb); (try clear hb2); (try clear hk); (try clear hi)) | ((with_reducible refine gate_callee (f := 88) rfl ?_); refine goesL_ (some 14) rfl rfl Try.func88 (by kernel_rfl) rfl #[.pointer (some ⟨g, 0, none⟩), .int .i64 60000] rfl (by (try simp only [List.map_toArray, List.map_cons, List.map_nil]); first | done | rfl | (simp only [List.length_drop, List.length_take]; rfl)) ?_; (with_reducible refine (spec_l1Cur_pick.calls g s0_0 t112 t113 60000 t114 t115 t116 w0 _ ?side1 ?side2 A13.out).mono ?_); (case side1 => repeat (first | (with_reducible first | exact HI0.out | apply IsS119.alloc | apply IsS119.drewN | apply IsS119.drew | apply IsS119.set_1 | apply IsS119.set_2) | exact HI0.out)); (case side2 => repeat (first | (with_reducible first | exact HB.out | apply below_alloc | apply pw_below_drewN | apply below_drew1 | refine below_set ?_ (IsS119.ge HI0.out)) | exact HB.out)); rintro e w16 ⟨rfl, hi, hb, hk⟩; refine ⟨_, rfl, ?_⟩; have n0_ := Aside0.mk (KeepBut.trans (by repeat (first | (with_reducible first | exact HK.out | apply KeepBut.set_ | apply keep_drewN | apply keep_drew | apply keep_alloc) | exact HK.out)) hk (.inl rfl)); have n1_ := Aside0.mk (hb); have n2_ := Aside0.mk (hi); clear HK; clear HB; clear HI0; have HK := n0_; have HB := n1_; have HI0 := n2_; clear n0_ n1_ n2_; (try clear hb); (try clear hb2); (try clear hk); (try clear hi)))
    go_ret
    exact ⟨by first | rfl | (simp [errW_none, errW_some] <;> rfl) | (simp [*, errW_none, errW_some] <;> rfl), by repeat (first | (with_reducible first | exact HI0.out | apply IsS119.alloc | apply IsS119.drewN | apply IsS119.drew | apply IsS119.set_1 | apply IsS119.set_2) | exact HI0.out), by repeat (first | (with_reducible first | exact HB.out | apply below_alloc | apply pw_below_drewN | apply below_drew1 | refine below_set ?_ (IsS119.ge HI0.out)) | exact HB.out), by repeat (first | (with_reducible first | exact HK.out | apply KeepBut.set_ | apply keep_drewN | apply keep_drew | apply keep_alloc) | exact HK.out)⟩

end Go.Proofs.Ytgolcojhnklfdaa.Pr
-- Written by mkprint.py (a program of this repo, which drives the print.py of the kit): Lean checks it.
namespace Go.Proofs.Ytgolcojhnklfdaa.Pr
open Go.RowKit Go.Proofs.YtgolcojhnklfdaaW.PrintWords Go.Proofs.YtgolcojhnklfdaaW.PrintLast Go.Proofs.YtgolcojhnklfdaaW.PrintMore
attribute [local go_sem] max2_int min2_int max_two min_two max_three min_three max_four min_four   -- for this text's walks alone
set_option linter.unusedVariables false
set_option linter.unusedSimpArgs false

/-! ### spec_l1Cur_of: function 93 -/
def spec_l1Cur_of.f (s0_0 : List Int) (s0_1 : Int) (s0_2 : Int) (l1 : List ByteArray) : Option (ByteArray × Int × Int) := (spec_l1Cur_pick.f s0_0 s0_1 s0_2 (l1.length : Int)).bind fun bt101 => (if 0 ≤ bt101.1 then (if bt101.1 < (l1.length : Int) then (some (rdOf ByteArray.empty l1 bt101.1, bt101.2.1, bt101.2.2)) else (none)) else (none))
set_option maxHeartbeats 8000000 in
set_option maxRecDepth 100000 in
theorem spec_l1Cur_of.calls (g : Nat) (s0_0 : List Int) (s0_1 : Int) (s0_2 : Int) (A1 : Option Addr) (c1 : Nat) (l1 : List ByteArray) (r1 : ByteArray) (r2 : Int) (r3 : Int) (w0 w : World) (hI : IsS119 w0 w g s0_0 s0_1 s0_2) (hB : Below w0.heap.size w0 w) (hr1 : Kd.C Kd.string w A1 l1.length l1) (hc1 : l1.length ≤ c1) (hf1 : ∀ ad, A1 = some ad → 0 < l1.length → ad.block ≠ g) (h : spec_l1Cur_of.f s0_0 s0_1 s0_2 l1 = some (r1, r2, r3)) :
    Calls Try.prog 93 #[.pointer (some ⟨g, 0, none⟩), .slice A1 l1.length c1] w fun e w' => e = .returned (.string r1) ∧ IsS119 w0 w' g s0_0 r2 r3 ∧ Below w0.heap.size w0 w' ∧ KeepBut w w' g none := by
  have HR1 := Aside0.mk hr1
  have HC1 := Aside0.mk hc1
  clear hr1 hc1
  have HI0 := Aside0.mk hI
  have HK := Aside0.mk (KeepBut.refl w g none)
  have HL := Aside0.mk hB.size
  clear hI
  have HW0 := Aside0.mk hB.size
  have HB := Aside0.mk hB
  clear hB
  have H : ((spec_l1Cur_pick.f s0_0 s0_1 s0_2 (l1.length : Int)).bind fun bt101 => (if 0 ≤ bt101.1 then (if bt101.1 < (l1.length : Int) then (some (rdOf ByteArray.empty l1 bt101.1, bt101.2.1, bt101.2.2)) else (none)) else (none))) = some (r1, r2, r3) := h
  clear h
  replace H := Option.bind_eq_some_iff.mp H
  obtain ⟨⟨t101, t102, t103⟩, A30, H⟩ := H
  replace H : (if 0 ≤ t101 then (if t101 < (l1.length : Int) then (some (rdOf ByteArray.empty l1 t101, t102, t103)) else (none)) else (none)) = some (r1, r2, r3) := H
  have A3 := Aside0.mk A30
  clear A30
  by_cases c4 : 0 ≤ t101
  · rw [if_pos c4] at H
    have c4b0 : decide (0 ≤ t101) = true := decide_eq_true c4
    clear c4
    by_cases c5 : t101 < (l1.length : Int)
    · rw [if_pos c5] at H
      have c5b0 : decide (t101 < (l1.length : Int)) = true := decide_eq_true c5
      clear c5
      simp only [Option.some.injEq, Prod.mk.injEq] at H
      obtain ⟨rfl, rfl, rfl⟩ := H
      go_enter Try.func93, Try.ntmps93
      go_wp2_with (first | ((with_reducible refine gate_callee (f := 88) rfl ?_); refine goesL_ (some 9) rfl rfl Try.func88 (by kernel_rfl) rfl #[.pointer (some ⟨g, 0, none⟩), .int .i64 (l1.length : Int)] rfl (by (try simp only [List.map_toArray, List.map_cons, List.map_nil]); first | done | rfl | (simp only [List.length_drop, List.length_take]; rfl)) ?_; (with_reducible refine (spec_l1Cur_pick.calls g s0_0 s0_1 s0_2 (l1.length : Int) t101 t102 t103 w0 _ ?side1 ?side2 A3.out).mono ?_); (case side1 => repeat (first | (with_reducible first | exact HI0.out | apply IsS119.alloc | apply IsS119.drewN | apply IsS119.drew | apply IsS119.set_1 | apply IsS119.set_2) | exact HI0.out)); (case side2 => repeat (first | (with_reducible first | exact HB.out | apply below_alloc | apply pw_below_drewN | apply below_drew1 | refine below_set ?_ (IsS119.ge HI0.out)) | exact HB.out)); rintro e w6 ⟨rfl, hi, hb, hk⟩; refine ⟨_, rfl, ?_⟩; have n0_ := Aside0.mk (KeepBut.trans (by repeat (first | (with_reducible first | exact HK.out | apply KeepBut.set_ | apply keep_drewN | apply keep_drew | apply keep_alloc) | exact HK.out)) hk (.inl rfl)); have n1_ := Aside0.mk (hb); have n2_ := Aside0.mk (hi); clear HK; clear HB; clear HI0; have HK := n0_; have HB := n1_; have HI0 := n2_; clear n0_ n1_ n2_; (try clear hb); (try clear hb2); (try clear hk); (try clear hi); have p104 : 0 ≤ (t101 : Int) := of_decide_eq_true (by first | (with_reducible assumption) | assumption); have q104 : t101 < (l1.length : Int) := of_decide_eq_true (by first | (with_reducible assumption) | assumption); obtain ⟨ad104, e104, hx104_0⟩ := Kd.at_string HR1.out t101 p104 q104; cases e104; replace hx104_0 := keep_cell HK.out hx104_0 (by first | (rw [add_block]; exact hf1 _ rfl (by omega)) | exact hf1 _ rfl (by omega) | exact hf1 ad104 rfl (by omega)); replace p104 := eq_true p104; replace q104 := eq_true q104))
      go_ret
      exact ⟨by first | rfl | (simp [errW_none, errW_some] <;> rfl) | (simp [*, errW_none, errW_some] <;> rfl), by repeat (first | (with_reducible first | exact HI0.out | apply IsS119.alloc | apply IsS119.drewN | apply IsS119.drew | apply IsS119.set_1 | apply IsS119.set_2) | exact HI0.out), by repeat (first | (with_reducible first | exact HB.out | apply below_alloc | apply pw_below_drewN | apply below_drew1 | refine below_set ?_ (IsS119.ge HI0.out)) | exact HB.out), by repeat (first | (with_reducible first | exact HK.out | apply KeepBut.set_ | apply keep_drewN | apply keep_drew | apply keep_alloc) | exact HK.out)⟩
    · rw [if_neg c5] at H
      exact absurd H (by simp)
  · rw [if_neg c4] at H
    exact absurd H (by simp)

end Go.Proofs.Ytgolcojhnklfdaa.Pr
-- Written by mkprint.py (a program of this repo, which drives the print.py of the kit): Lean checks it.
namespace Go.Proofs.Ytgolcojhnklfdaa.Pr
open Go.RowKit Go.Proofs.YtgolcojhnklfdaaW.PrintWords Go.Proofs.YtgolcojhnklfdaaW.PrintLast Go.Proofs.YtgolcojhnklfdaaW.PrintMore
attribute [local go_sem] max2_int min2_int max_two min_two max_three min_three max_four min_four   -- for this text's walks alone
set_option linter.unusedVariables false
set_option linter.unusedSimpArgs false

/-! ### spec_l1Cur_bytes: function 94 -/
def spec_l1Cur_bytes.l0 : Nat → List Int → Int → List Int → Int → Int → Option (List Int × Int × Int)
  | 0, _, _, _, _, _ => none
  | k + 1, x5, x6, x1000, x1001, x1002 => if x6 > 0 then ((spec_l1Cur_next.f x1000 x1001 x1002).bind fun bt104 => (if x5.length < 140737488355328 then (spec_l1Cur_bytes.l0 k (x5 ++ [(bt104.1) % 256]) (wrap64 (x6 - 1)) x1000 bt104.2.1 bt104.2.2) else (none))) else (some (x5, x1001, x1002))
def spec_l1Cur_bytes.f (k : Nat) (s0_0 : List Int) (s0_1 : Int) (s0_2 : Int) (a1 : Int) : Option (List Int × Int × Int) := (spec_l1Cur_pick.f s0_0 s0_1 s0_2 a1).bind fun bt101 => (spec_l1Cur_bytes.l0 k ([] : List Int) bt101.1 s0_0 bt101.2.1 bt101.2.2)
theorem spec_l1Cur_bytes.mono_l : ∀ k, (∀ y0 y1 y2 y3 y4, LeO (spec_l1Cur_bytes.l0 k y0 y1 y2 y3 y4) (spec_l1Cur_bytes.l0 (k + 1) y0 y1 y2 y3 y4))
  | 0 => fun _ _ _ _ _ r h => by simp [spec_l1Cur_bytes.l0] at h
  | k + 1 => by
    have ih0 := spec_l1Cur_bytes.mono_l k
    · intro y0 y1 y2 y3 y4
      unfold spec_l1Cur_bytes.l0
      repeat' first
      | (with_reducible exact ih0 _ _ _ _ _)
      | (with_reducible exact LeO.refl _)
      | (with_reducible exact LeO.none _)
      | (with_reducible refine LeO.ite ?_ ?_)
      | (with_reducible refine LeO.bind ?_ (fun _ => ?_))
      | exact ih0 _ _ _ _ _
      | exact LeO.none _
      | refine LeO.ite ?_ ?_
      | refine LeO.bind ?_ (fun _ => ?_)
theorem spec_l1Cur_bytes.mono : ∀ a0 a1 a2 a3 k, LeO (spec_l1Cur_bytes.f k a0 a1 a2 a3) (spec_l1Cur_bytes.f (k + 1) a0 a1 a2 a3) := by
  intro a0 a1 a2 a3 k
  have ih0 := spec_l1Cur_bytes.mono_l k
  unfold spec_l1Cur_bytes.f
  repeat' first
      | (with_reducible exact ih0 _ _ _ _ _)
      | (with_reducible exact LeO.refl _)
      | (with_reducible exact LeO.none _)
      | (with_reducible refine LeO.ite ?_ ?_)
      | (with_reducible refine LeO.bind ?_ (fun _ => ?_))
      | exact ih0 _ _ _ _ _
      | exact LeO.none _
      | refine LeO.ite ?_ ?_
      | refine LeO.bind ?_ (fun _ => ?_)
set_option maxHeartbeats 8000000 in
set_option maxRecDepth 100000 in
theorem spec_l1Cur_bytes.calls (k : Nat) (g : Nat) (s0_0 : List Int) (s0_1 : Int) (s0_2 : Int) (a1 : Int) (r1 : List Int) (r2 : Int) (r3 : Int) (w0 w : World) (hI : IsS119 w0 w g s0_0 s0_1 s0_2) (hB : Below w0.heap.size w0 w) (h : spec_l1Cur_bytes.f k s0_0 s0_1 s0_2 a1 = some (r1, r2, r3)) :
    Calls Try.prog 94 #[.pointer (some ⟨g, 0, none⟩), .int .i64 a1] w fun e w' => ∃ v0_ : Value, e = .returned (v0_) ∧ Kd.R (Kd.int .u8) 5 w' w.heap.size (fun _ => True) v0_ r1 ∧ IsS119 w0 w' g s0_0 r2 r3 ∧ Below w0.heap.size w0 w' ∧ KeepBut w w' g none := by
  have HI0 := Aside0.mk hI
  have HK := Aside0.mk (KeepBut.refl w g none)
  have HL := Aside0.mk hB.size
  clear hI
  have HW0 := Aside0.mk hB.size
  have HB := Aside0.mk hB
  clear hB
  have H : ((spec_l1Cur_pick.f s0_0 s0_1 s0_2 a1).bind fun bt101 => (spec_l1Cur_bytes.l0 k ([] : List Int) bt101.1 s0_0 bt101.2.1 bt101.2.2)) = some (r1, r2, r3) := h
  clear h
  replace H := Option.bind_eq_some_iff.mp H
  obtain ⟨⟨t101, t102, t103⟩, A30, H⟩ := H
  replace H : (spec_l1Cur_bytes.l0 k ([] : List Int) t101 s0_0 t102 t103) = some (r1, r2, r3) := H
  have A3 := Aside0.mk A30
  clear A30
  have H' := Aside0.mk H
  clear H
  go_enter Try.func94, Try.ntmps94
  go_wp2_with (first | ((with_reducible refine gate_callee (f := 88) rfl ?_); refine goesL_ (some 9) rfl rfl Try.func88 (by kernel_rfl) rfl #[.pointer (some ⟨g, 0, none⟩), .int .i64 a1] rfl (by (try simp only [List.map_toArray, List.map_cons, List.map_nil]); first | done | rfl | (simp only [List.length_drop, List.length_take]; rfl)) ?_; (with_reducible refine (spec_l1Cur_pick.calls g s0_0 s0_1 s0_2 a1 t101 t102 t103 w0 _ ?side1 ?side2 A3.out).mono ?_); (case side1 => repeat (first | (with_reducible first | exact HI0.out | apply IsS119.alloc | apply IsS119.drewN | apply IsS119.drew | apply IsS119.set_1 | apply IsS119.set_2) | exact HI0.out)); (case side2 => repeat (first | (with_reducible first | exact HB.out | apply below_alloc | apply pw_below_drewN | apply below_drew1 | refine below_set ?_ (IsS119.ge HI0.out)) | exact HB.out)); rintro e w4 ⟨rfl, hi, hb, hk⟩; refine ⟨_, rfl, ?_⟩; have n0_ := Aside0.mk (KeepBut.trans (by repeat (first | (with_reducible first | exact HK.out | apply KeepBut.set_ | apply keep_drewN | apply keep_drew | apply keep_alloc) | exact HK.out)) hk (.inl rfl)); have n1_ := Aside0.mk (hb); have n2_ := Aside0.mk (hi); clear HK; clear HB; clear HI0; have HK := n0_; have HB := n1_; have HI0 := n2_; clear n0_ n1_ n2_; (try clear hb); (try clear hb2); (try clear hk); (try clear hi)))
  go_loopg [5, 6] k (fun kq v5 v6 w' => ∃ (x5_1 : List Int) (x6_1 : Int) (x1001_1 : Int) (x1002_1 : Int), v6 = .int .i64 x6_1 ∧ Aside0 (spec_l1Cur_bytes.l0 kq x5_1 x6_1 s0_0 x1001_1 x1002_1 = some (r1, r2, r3)) ∧ Aside0 (kq ≤ k) ∧ Aside0 (Kd.R (Kd.int .u8) 5 w' w.heap.size (fun _ => True) v5 x5_1) ∧ Aside0 (IsS119 w0 w' g s0_0 x1001_1 x1002_1) ∧ Aside0 (KeepBut w w' g none) ∧ Aside0 (Below w0.heap.size w0 w'))
  case atStart => exact ⟨(([] : List Int)), (t101), (t102), (t103), (by first | rfl | (simp; done) | (simp [*]; done)), H', ⟨Nat.le_refl _⟩, ⟨by first | exact Kd.R_nil _ _ _ _ _ | exact Kd.N_nil _ _ _ _ _ | exact Kd.V_nil _ _ _ _ _ | exact Kd.Q_nil _ _ _ _ _ | exact Kd.S_nil _ _ _ _ _⟩, ⟨by repeat (first | (with_reducible first | exact HI0.out | apply IsS119.alloc | apply IsS119.drewN | apply IsS119.drew | apply IsS119.set_1 | apply IsS119.set_2) | exact HI0.out)⟩, ⟨by repeat (first | (with_reducible first | exact HK.out | apply KeepBut.set_ | apply keep_drewN | apply keep_drew | apply keep_alloc) | exact HK.out)⟩, ⟨by repeat (first | (with_reducible first | exact HB.out | apply below_alloc | apply pw_below_drewN | apply below_drew1 | refine below_set ?_ (IsS119.ge HI0.out)) | exact HB.out)⟩⟩
  case round =>
    clear H'
    try clear p2
    obtain ⟨x5_1, x6_1, x1001_1, x1002_1, rfl, HA, HK1, HO_5, HI0, HK, HB⟩ := hrel
    cases gk with
    | zero => exact absurd HA.out (by simp [spec_l1Cur_bytes.l0])
    | succ k1 =>
      have H := HA.out
      clear HA
      simp only [spec_l1Cur_bytes.l0] at H
      by_cases c5 : x6_1 > 0
      · rw [if_pos c5] at H
        have c5b0 : decide (0 < x6_1) = true := decide_eq_true c5
        clear c5
        replace H := Option.bind_eq_some_iff.mp H
        obtain ⟨⟨t104, t105, t106⟩, A60, H⟩ := H
        replace H : (if x5_1.length < 140737488355328 then (spec_l1Cur_bytes.l0 k1 (x5_1 ++ [(t104) % 256]) (wrap64 (x6_1 - 1)) s0_0 t105 t106) else (none)) = some (r1, r2, r3) := H
        have A6 := Aside0.mk A60
        clear A60
        by_cases c7 : x5_1.length < 140737488355328
        · rw [if_pos c7] at H
          have LMc7 := Aside0.mk c7
          clear c7
          obtain ⟨y107, hy107⟩ : ∃ y_ : List Int, y_ = (x5_1 ++ [(t104) % 256]) := ⟨_, rfl⟩
          replace H : (spec_l1Cur_bytes.l0 k1 y107 (wrap64 (x6_1 - 1)) s0_0 t105 t106) = some (r1, r2, r3) := by first | (rw [hy107]; with_reducible exact H) | (have H2_ := (Option.bind_some _ _).symm.trans H; rw [hy107]; with_reducible exact H2_) | (have H2_ := (Option.bind_some _ _).symm.trans H; with_reducible exact H2_) | with_reducible exact H | (rw [hy107]; exact H) | exact H
          have Ny107 := Aside0.mk hy107
          clear hy107
          have H' := Aside0.mk H
          clear H
          go_wp2_with (first | ((with_reducible refine gate_callee (f := 130) rfl ?_); refine goesL_ (some 16) rfl rfl Try.func130 (by kernel_rfl) rfl #[.pointer (some ⟨g, 0, none⟩)] rfl (by (try simp only [List.map_toArray, List.map_cons, List.map_nil]); first | done | rfl | (simp only [List.length_drop, List.length_take]; rfl)) ?_; (with_reducible refine (spec_l1Cur_next.calls g s0_0 x1001_1 x1002_1 t104 t105 t106 w0 _ ?side1 ?side2 A6.out).mono ?_); (case side1 => repeat (first | (with_reducible first | exact HI0.out | apply IsS119.alloc | apply IsS119.drewN | apply IsS119.drew | apply IsS119.set_1 | apply IsS119.set_2) | exact HI0.out)); (case side2 => repeat (first | (with_reducible first | exact HB.out | apply below_alloc | apply pw_below_drewN | apply below_drew1 | refine below_set ?_ (IsS119.ge HI0.out)) | exact HB.out)); rintro e w8 ⟨rfl, hi, hb, hk⟩; refine ⟨_, rfl, ?_⟩; have n0_ := Aside0.mk (Kd.R_mono (Kd.R_keep (IsS119.apart (show IsS119 w0 _ g s0_0 x1001_1 x1002_1 from by repeat (first | (with_reducible first | exact HI0.out | apply IsS119.alloc | apply IsS119.drewN | apply IsS119.drew | apply IsS119.set_1 | apply IsS119.set_2) | exact HI0.out)) (by (with_reducible repeat (first | apply Kd.R_alloc | apply Kd.R_drewN | apply Kd.R_drew)); exact HO_5.out) (by decide)) hk (fun _ h => h.2)) (fun _ h => h.1)); have n1_ := Aside0.mk (KeepBut.trans (by repeat (first | (with_reducible first | exact HK.out | apply KeepBut.set_ | apply keep_drewN | apply keep_drew | apply keep_alloc) | exact HK.out)) hk (.inl rfl)); have n2_ := Aside0.mk (hb); have n3_ := Aside0.mk (hi); clear HO_5; clear HK; clear HB; clear HI0; have HO_5 := n0_; have HK := n1_; have HB := n2_; have HI0 := n3_; clear n0_ n1_ n2_ n3_; (try clear hb); (try clear hb2); (try clear hk); (try clear hi)) | ((with_reducible refine gate_builtin (b := .append) (xs := #[.tmp 14, .tmp 18]) rfl ?_); at_builtin; refine Kd.R_append (Kd.int .u8) w.heap.size rfl (.tmp 14) (.tmp 18) 26 5 (.int .u8 0) 1 rfl Try.underlying26 info5 rfl (by decide) (by omega) u5 x5_1 ((t104) % 256) [.int .u8 ((t104) % 256)] (fun _ => True) (fun _ => False) rfl rfl ?aP (fun _ hk => hk.elim) ?aF ?aO (Below.refl _ _) ?aS ?aL ?_; (case aP => exact rfl); (case aF => exact (fun _ _ => trivial)); (case aO => exact (by (with_reducible repeat (first | apply Kd.R_alloc | apply Kd.R_drewN | apply Kd.R_drew)); exact HO_5.out)); (case aS => exact (keep_size (w := w) (g := g) (row := none) (by repeat (first | (with_reducible first | exact HK.out | apply KeepBut.set_ | apply keep_drewN | apply keep_drew | apply keep_alloc) | exact HK.out)))); (case aL => have := LMc7.out; omega); intro v108 w9 ho hb hg hat; rw [← Ny107.out] at ho; have n0_ := Aside0.mk (IsS119.grown (by repeat (first | (with_reducible first | exact HI0.out | apply IsS119.alloc | apply IsS119.drewN | apply IsS119.drew | apply IsS119.set_1 | apply IsS119.set_2) | exact HI0.out)) hg (IsS119.own_ne HI0.out HO_5.out (by decide))); have n1_ := Aside0.mk (below_weaken (by repeat (first | (with_reducible first | exact HB.out | apply below_alloc | apply pw_below_drewN | apply below_drew1 | refine below_set ?_ (IsS119.ge HI0.out)) | exact HB.out)) HL.out hb); have n2_ := Aside0.mk (KeepBut.trans (by repeat (first | (with_reducible first | exact HK.out | apply KeepBut.set_ | apply keep_drewN | apply keep_drew | apply keep_alloc) | exact HK.out)) (KeepBut.of_grown hg g) (Kd.R_base2 HO_5.out)); have n3_ := Aside0.mk (ho); clear HI0; clear HB; clear HK; clear HO_5; have HI0 := n0_; have HB := n1_; have HK := n2_; have HO109 := n3_; clear n0_ n1_ n2_ n3_; clear ho hb hg hat))
          go_roundg k1
          case measure => have := HK1.out; omega
          case rel => exact ⟨(y107), (wrap64 (x6_1 - 1)), (t105), (t106), (by first | rfl | (simp; done) | (simp [*]; done)), H', ⟨by have := HK1.out; omega⟩, ⟨by (with_reducible repeat (first | apply Kd.R_alloc | apply Kd.R_drewN | apply Kd.R_drew)); exact HO109.out⟩, ⟨by repeat (first | (with_reducible first | exact HI0.out | apply IsS119.alloc | apply IsS119.drewN | apply IsS119.drew | apply IsS119.set_1 | apply IsS119.set_2) | exact HI0.out)⟩, ⟨by repeat (first | (with_reducible first | exact HK.out | apply KeepBut.set_ | apply keep_drewN | apply keep_drew | apply keep_alloc) | exact HK.out)⟩, ⟨by repeat (first | (with_reducible first | exact HB.out | apply below_alloc | apply pw_below_drewN | apply below_drew1 | refine below_set ?_ (IsS119.ge HI0.out)) | exact HB.out)⟩⟩
        · rw [if_neg c7] at H
          exact absurd H (by simp)
      · rw [if_neg c5] at H
        have c5b0 : decide (0 < x6_1) = false := decide_eq_false c5
        clear c5
        simp only [Option.some.injEq, Prod.mk.injEq] at H
        obtain ⟨rfl, rfl, rfl⟩ := H
        go_wp2
        go_ret
        exact ⟨_, by first | rfl | (simp [errW_none, errW_some] <;> rfl) | (simp [*, errW_none, errW_some] <;> rfl), by (with_reducible repeat (first | apply Kd.R_alloc | apply Kd.R_drewN | apply Kd.R_drew)); exact HO_5.out, by repeat (first | (with_reducible first | exact HI0.out | apply IsS119.alloc | apply IsS119.drewN | apply IsS119.drew | apply IsS119.set_1 | apply IsS119.set_2) | exact HI0.out), by repeat (first | (with_reducible first | exact HB.out | apply below_alloc | apply pw_below_drewN | apply below_drew1 | refine below_set ?_ (IsS119.ge HI0.out)) | exact HB.out), by repeat (first | (with_reducible first | exact HK.out | apply KeepBut.set_ | apply keep_drewN | apply keep_drew | apply keep_alloc) | exact HK.out)⟩

end Go.Proofs.Ytgolcojhnklfdaa.Pr
-- Written by mkprint.py (a program of this repo, which drives the print.py of the kit): Lean checks it.
namespace Go.Proofs.Ytgolcojhnklfdaa.Pr
open Go.RowKit Go.Proofs.YtgolcojhnklfdaaW.PrintWords Go.Proofs.YtgolcojhnklfdaaW.PrintLast Go.Proofs.YtgolcojhnklfdaaW.PrintMore
attribute [local go_sem] max2_int min2_int max_two min_two max_three min_three max_four min_four   -- for this text's walks alone
set_option linter.unusedVariables false
set_option linter.unusedSimpArgs false

/-! ### spec_l1Cur_rare: function 95 -/
def spec_l1Cur_rare.f (s0_0 : List Int) (s0_1 : Int) (s0_2 : Int) (a1 : Int) : Option (Int × Int × Int) := (spec_l1Cur_one.f s0_0 s0_1 s0_2 8).bind fun bt101 => (if bt101.1 = true then ((spec_l1Cur_pick.f s0_0 bt101.2.1 bt101.2.2 (wrap64 (a1 - 1))).bind fun bt104 => (some (wrap64 (1 + bt104.1), bt104.2.1, bt104.2.2))) else (some (0, bt101.2.1, bt101.2.2)))
set_option maxHeartbeats 8000000 in
set_option maxRecDepth 100000 in
theorem spec_l1Cur_rare.calls (g : Nat) (s0_0 : List Int) (s0_1 : Int) (s0_2 : Int) (a1 : Int) (r1 : Int) (r2 : Int) (r3 : Int) (w0 w : World) (hI : IsS119 w0 w g s0_0 s0_1 s0_2) (hB : Below w0.heap.size w0 w) (h : spec_l1Cur_rare.f s0_0 s0_1 s0_2 a1 = some (r1, r2, r3)) :
    Calls Try.prog 95 #[.pointer (some ⟨g, 0, none⟩), .int .i64 a1] w fun e w' => e = .returned (.int .i64 r1) ∧ IsS119 w0 w' g s0_0 r2 r3 ∧ Below w0.heap.size w0 w' ∧ KeepBut w w' g none := by
  have HI0 := Aside0.mk hI
  have HK := Aside0.mk (KeepBut.refl w g none)
  have HL := Aside0.mk hB.size
  clear hI
  have HW0 := Aside0.mk hB.size
  have HB := Aside0.mk hB
  clear hB
  have H : ((spec_l1Cur_one.f s0_0 s0_1 s0_2 8).bind fun bt101 => (if bt101.1 = true then ((spec_l1Cur_pick.f s0_0 bt101.2.1 bt101.2.2 (wrap64 (a1 - 1))).bind fun bt104 => (some (wrap64 (1 + bt104.1), bt104.2.1, bt104.2.2))) else (some (0, bt101.2.1, bt101.2.2)))) = some (r1, r2, r3) := h
  clear h
  replace H := Option.bind_eq_some_iff.mp H
  obtain ⟨⟨t101, t102, t103⟩, A30, H⟩ := H
  replace H : (if t101 = true then ((spec_l1Cur_pick.f s0_0 t102 t103 (wrap64 (a1 - 1))).bind fun bt104 => (some (wrap64 (1 + bt104.1), bt104.2.1, bt104.2.2))) else (some (0, t102, t103))) = some (r1, r2, r3) := H
  have A3 := Aside0.mk A30
  clear A30
  by_cases c4 : t101 = true
  · subst c4
    have H1 : ((spec_l1Cur_pick.f s0_0 t102 t103 (wrap64 (a1 - 1))).bind fun bt104 => (some (wrap64 (1 + bt104.1), bt104.2.1, bt104.2.2))) = some (r1, r2, r3) := by rw [if_pos rfl] at H; exact H
    clear H
    have H := H1
    clear H1
    replace H := Option.bind_eq_some_iff.mp H
    obtain ⟨⟨t104, t105, t106⟩, A50, H⟩ := H
    replace H : (some (wrap64 (1 + t104), t105, t106)) = some (r1, r2, r3) := H
    have A5 := Aside0.mk A50
    clear A50
    simp only [Option.some.injEq, Prod.mk.injEq] at H
    obtain ⟨rfl, rfl, rfl⟩ := H
    go_enter Try.func95, Try.ntmps95
    go_wp2_with (first | ((with_reducible refine gate_callee (f := 90) rfl ?_); refine goesL_ (some 6) rfl rfl Try.func90 (by kernel_rfl) rfl #[.pointer (some ⟨g, 0, none⟩), .int .i64 8] rfl (by (try simp only [List.map_toArray, List.map_cons, List.map_nil]); first | done | rfl | (simp only [List.length_drop, List.length_take]; rfl)) ?_; (with_reducible refine (spec_l1Cur_one.calls g s0_0 s0_1 s0_2 8 true t102 t103 w0 _ ?side1 ?side2 A3.out).mono ?_); (case side1 => repeat (first | (with_reducible first | exact HI0.out | apply IsS119.alloc | apply IsS119.drewN | apply IsS119.drew | apply IsS119.set_1 | apply IsS119.set_2) | exact HI0.out)); (case side2 => repeat (first | (with_reducible first | exact HB.out | apply below_alloc | apply pw_below_drewN | apply below_drew1 | refine below_set ?_ (IsS119.ge HI0.out)) | exact HB.out)); rintro e w6 ⟨rfl, hi, hb, hk⟩; refine ⟨_, rfl, ?_⟩; have n0_ := Aside0.mk (KeepBut.trans (by repeat (first | (with_reducible first | exact HK.out | apply KeepBut.set_ | apply keep_drewN | apply keep_drew | apply keep_alloc) | exact HK.out)) hk (.inl rfl)); have n1_ := Aside0.mk (hb); have n2_ := Aside0.mk (hi); clear HK; clear HB; clear HI0; have HK := n0_; have HB := n1_; have HI0 := n2_; clear n0_ n1_ n2_; (try clear hb); (try clear hb2); (try clear hk); (try clear hi)) | ((with_reducible refine gate_callee (f := 88) rfl ?_); refine goesL_ (some 11) rfl rfl Try.func88 (by kernel_rfl) rfl #[.pointer (some ⟨g, 0, none⟩), .int .i64 (wrap64 (a1 - 1))] rfl (by (try simp only [List.map_toArray, List.map_cons, List.map_nil]); first | done | rfl | (simp only [List.length_drop, List.length_take]; rfl)) ?_; (with_reducible refine (spec_l1Cur_pick.calls g s0_0 t102 t103 (wrap64 (a1 - 1)) t104 t105 t106 w0 _ ?side1 ?side2 A5.out).mono ?_); (case side1 => repeat (first | (with_reducible first | exact HI0.out | apply IsS119.alloc | apply IsS119.drewN | apply IsS119.drew | apply IsS119.set_1 | apply IsS119.set_2) | exact HI0.out)); (case side2 => repeat (first | (with_reducible first | exact HB.out | apply below_alloc | apply pw_below_drewN | apply below_drew1 | refine below_set ?_ (IsS119.ge HI0.out)) | exact HB.out)); rintro e w7 ⟨rfl, hi, hb, hk⟩; refine ⟨_, rfl, ?_⟩; have n0_ := Aside0.mk (KeepBut.trans (by repeat (first | (with_reducible first | exact HK.out | apply KeepBut.set_ | apply keep_drewN | apply keep_drew | apply keep_alloc) | exact HK.out)) hk (.inl rfl)); have n1_ := Aside0.mk (hb); have n2_ := Aside0.mk (hi); clear HK; clear HB; clear HI0; have HK := n0_; have HB := n1_; have HI0 := n2_; clear n0_ n1_ n2_; (try clear hb); (try clear hb2); (try clear hk); (try clear hi)))
    go_ret
    exact ⟨by first | rfl | (simp [errW_none, errW_some] <;> rfl) | (simp [*, errW_none, errW_some] <;> rfl), by repeat (first | (with_reducible first | exact HI0.out | apply IsS119.alloc | apply IsS119.drewN | apply IsS119.drew | apply IsS119.set_1 | apply IsS119.set_2) | exact HI0.out), by repeat (first | (with_reducible first | exact HB.out | apply below_alloc | apply pw_below_drewN | apply below_drew1 | refine below_set ?_ (IsS119.ge HI0.out)) | exact HB.out), by repeat (first | (with_reducible first | exact HK.out | apply KeepBut.set_ | apply keep_drewN | apply keep_drew | apply keep_alloc) | exact HK.out)⟩
  · replace c4 := Bool.eq_false_iff.mpr c4
    subst c4
    have H1 : (some (0, t102, t103)) = some (r1, r2, r3) := by rw [if_neg (show ¬ (false = true) by decide)] at H; exact H
    clear H
    have H := H1
    clear H1
    simp only [Option.some.injEq, Prod.mk.injEq] at H
    obtain ⟨rfl, rfl, rfl⟩ := H
    go_enter Try.func95, Try.ntmps95
    go_wp2_with (first | ((with_reducible refine gate_callee (f := 90) rfl ?_); refine goesL_ (some 6) rfl rfl Try.func90 (by kernel_rfl) rfl #[.pointer (some ⟨g, 0, none⟩), .int .i64 8] rfl (by (try simp only [List.map_toArray, List.map_cons, List.map_nil]); first | done | rfl | (simp only [List.length_drop, List.length_take]; rfl)) ?_; (with_reducible refine (spec_l1Cur_one.calls g s0_0 s0_1 s0_2 8 false t102 t103 w0 _ ?side1 ?side2 A3.out).mono ?_); (case side1 => repeat (first | (with_reducible first | exact HI0.out | apply IsS119.alloc | apply IsS119.drewN | apply IsS119.drew | apply IsS119.set_1 | apply IsS119.set_2) | exact HI0.out)); (case side2 => repeat (first | (with_reducible first | exact HB.out | apply below_alloc | apply pw_below_drewN | apply below_drew1 | refine below_set ?_ (IsS119.ge HI0.out)) | exact HB.out)); rintro e w8 ⟨rfl, hi, hb, hk⟩; refine ⟨_, rfl, ?_⟩; have n0_ := Aside0.mk (KeepBut.trans (by repeat (first | (with_reducible first | exact HK.out | apply KeepBut.set_ | apply keep_drewN | apply keep_drew | apply keep_alloc) | exact HK.out)) hk (.inl rfl)); have n1_ := Aside0.mk (hb); have n2_ := Aside0.mk (hi); clear HK; clear HB; clear HI0; have HK := n0_; have HB := n1_; have HI0 := n2_; clear n0_ n1_ n2_; (try clear hb); (try clear hb2); (try clear hk); (try clear hi)))
    go_ret
    exact ⟨by first | rfl | (simp [errW_none, errW_some] <;> rfl) | (simp [*, errW_none, errW_some] <;> rfl), by repeat (first | (with_reducible first | exact HI0.out | apply IsS119.alloc | apply IsS119.drewN | apply IsS119.drew | apply IsS119.set_1 | apply IsS119.set_2) | exact HI0.out), by repeat (first | (with_reducible first | exact HB.out | apply below_alloc | apply pw_below_drewN | apply below_drew1 | refine below_set ?_ (IsS119.ge HI0.out)) | exact HB.out), by repeat (first | (with_reducible first | exact HK.out | apply KeepBut.set_ | apply keep_drewN | apply keep_drew | apply keep_alloc) | exact HK.out)⟩

end Go.Proofs.Ytgolcojhnklfdaa.Pr
-- Written by mkprint.py (a program of this repo, which drives the print.py of the kit): Lean checks it.
namespace Go.Proofs.Ytgolcojhnklfdaa.Pr
open Go.RowKit Go.Proofs.YtgolcojhnklfdaaW.PrintWords Go.Proofs.YtgolcojhnklfdaaW.PrintLast Go.Proofs.YtgolcojhnklfdaaW.PrintMore
attribute [local go_sem] max2_int min2_int max_two min_two max_three min_three max_four min_four   -- for this text's walks alone
set_option linter.unusedVariables false
set_option linter.unusedSimpArgs false

/-! ### spec_DrawAnswerChallenge: function 39 -/
def spec_DrawAnswerChallenge.f (k : Nat) (l0 : List Int) : Option (Int × ByteArray × List Int × Int) := (newCur.f l0 0 0).bind fun bt101 => ((spec_l1Cur_secret.f bt101.1 bt101.2.1 bt101.2.2).bind fun bt105 => ((spec_l1Cur_of.f bt101.1 bt105.2.1 bt105.2.2 (([(⟨#[104, 116, 116, 112, 115, 58, 47, 47, 97, 46, 101, 120, 97, 109, 112, 108, 101]⟩ : ByteArray), (⟨#[120]⟩ : ByteArray), (⟨#[]⟩ : ByteArray)] : List ByteArray))).bind fun bt111 => ((spec_l1Cur_bytes.f k bt101.1 bt111.2.1 bt111.2.2 12).bind fun bt114 => ((spec_l1Cur_one.f bt101.1 bt114.2.1 bt114.2.2 20).bind fun bt119 => (if bt119.1 = true then ((spec_l1Cur_pick.f bt101.1 bt119.2.1 bt119.2.2 3).bind fun bt122 => (if 0 ≤ (wrap64 (99 + bt122.1)) then (if (wrap64 (99 + bt122.1) : Int).toNat ≤ 281474976710656 then ((spec_l1Cur_pick.f bt101.1 bt122.2.1 bt122.2.2 300).bind fun bt128 => ((some (([bt128.1, (-1), 1000000000, 1000000001] : List Int) : List Int)).bind fun y131 => ((spec_l1Cur_rare.f bt101.1 bt128.2.1 bt128.2.2 4).bind fun bt134 => (if 0 ≤ bt134.1 then (if bt134.1 < (y131.length : Int) then (some (bt105.1, bt111.1, (List.replicate (wrap64 (99 + bt122.1) : Int).toNat 0), rd y131 bt134.1)) else (none)) else (none))))) else (none)) else (none))) else ((spec_l1Cur_pick.f bt101.1 bt119.2.1 bt119.2.2 300).bind fun bt138 => ((some (([bt138.1, (-1), 1000000000, 1000000001] : List Int) : List Int)).bind fun y141 => ((spec_l1Cur_rare.f bt101.1 bt138.2.1 bt138.2.2 4).bind fun bt144 => (if 0 ≤ bt144.1 then (if bt144.1 < (y141.length : Int) then (some (bt105.1, bt111.1, bt114.1, rd y141 bt144.1)) else (none)) else (none))))))))))
theorem spec_DrawAnswerChallenge.mono : ∀ a0 k, LeO (spec_DrawAnswerChallenge.f k a0) (spec_DrawAnswerChallenge.f (k + 1) a0) := by
  intro a0 k
  unfold spec_DrawAnswerChallenge.f
  repeat' first
      | (with_reducible exact spec_l1Cur_bytes.mono _ _ _ _ _)
      | (with_reducible exact LeO.refl _)
      | (with_reducible exact LeO.none _)
      | (with_reducible refine LeO.ite ?_ ?_)
      | (with_reducible refine LeO.bind ?_ (fun _ => ?_))
      | exact spec_l1Cur_bytes.mono _ _ _ _ _
      | exact LeO.none _
      | refine LeO.ite ?_ ?_
      | refine LeO.bind ?_ (fun _ => ?_)
def spec_DrawAnswerChallenge.T7 : Bool × List (List Nat × List Nat) := (true, [([], []), ([], []), ([], []), ([], []), ([3], [3]), ([4], [4]), ([], []), ([6, 4], [6]), ([5, 7], [5, 7]), ([8], [8]), ([0, 7, 0], [0]), ([1, 10, 0, 1, 10], [1]), ([2, 11, 0, 1, 2, 10, 11], [2]), ([9, 12, 0, 1, 2, 3, 4, 5, 6, 7, 8, 9, 10, 11, 12], [9])])
def spec_DrawAnswerChallenge.B7 : List Nat := [0, 0, 0, 0, 8, 24, 0, 88, 248, 504, 217, 1243, 3295, 8191]
theorem spec_DrawAnswerChallenge.tab7 : rtab .any (opsOf Try.f39 7) = spec_DrawAnswerChallenge.T7 := by kernel_rfl
theorem spec_DrawAnswerChallenge.bits7 : waitsOk spec_DrawAnswerChallenge.T7.2 spec_DrawAnswerChallenge.B7 = true := by kernel_rfl
set_option maxHeartbeats 8000000 in
set_option maxRecDepth 100000 in
theorem spec_DrawAnswerChallenge.calls (k : Nat) (A0 : Option Addr) (c0 : Nat) (l0 : List Int) (r1 : Int) (r2 : ByteArray) (r3 : List Int) (r4 : Int) (w : World) (hr0 : Kd.C (Kd.int .u8) w A0 l0.length l0) (hc0 : l0.length ≤ c0) (h : spec_DrawAnswerChallenge.f k l0 = some (r1, r2, r3, r4)) :
    Calls Try.prog 39 #[.slice A0 l0.length c0] w fun e w' => ∃ v2_ : Value, e = .returned (.tuple #[.int .i64 r1, .string r2, v2_, .int .i64 r4]) ∧ Kd.R (Kd.int .u8) 5 w' w.heap.size (fun _ => True) v2_ r3 ∧ Below w.heap.size w w' := by
  have hu119 := Try.underlying119
  have HR0 := Aside0.mk hr0
  have HC0 := Aside0.mk hc0
  clear hr0 hc0
  have HB := Aside0.mk (Below.refl w.heap.size w)
  have H : ((newCur.f l0 0 0).bind fun bt101 => ((spec_l1Cur_secret.f bt101.1 bt101.2.1 bt101.2.2).bind fun bt105 => ((spec_l1Cur_of.f bt101.1 bt105.2.1 bt105.2.2 (([(⟨#[104, 116, 116, 112, 115, 58, 47, 47, 97, 46, 101, 120, 97, 109, 112, 108, 101]⟩ : ByteArray), (⟨#[120]⟩ : ByteArray), (⟨#[]⟩ : ByteArray)] : List ByteArray))).bind fun bt111 => ((spec_l1Cur_bytes.f k bt101.1 bt111.2.1 bt111.2.2 12).bind fun bt114 => ((spec_l1Cur_one.f bt101.1 bt114.2.1 bt114.2.2 20).bind fun bt119 => (if bt119.1 = true then ((spec_l1Cur_pick.f bt101.1 bt119.2.1 bt119.2.2 3).bind fun bt122 => (if 0 ≤ (wrap64 (99 + bt122.1)) then (if (wrap64 (99 + bt122.1) : Int).toNat ≤ 281474976710656 then ((spec_l1Cur_pick.f bt101.1 bt122.2.1 bt122.2.2 300).bind fun bt128 => ((some (([bt128.1, (-1), 1000000000, 1000000001] : List Int) : List Int)).bind fun y131 => ((spec_l1Cur_rare.f bt101.1 bt128.2.1 bt128.2.2 4).bind fun bt134 => (if 0 ≤ bt134.1 then (if bt134.1 < (y131.length : Int) then (some (bt105.1, bt111.1, (List.replicate (wrap64 (99 + bt122.1) : Int).toNat 0), rd y131 bt134.1)) else (none)) else (none))))) else (none)) else (none))) else ((spec_l1Cur_pick.f bt101.1 bt119.2.1 bt119.2.2 300).bind fun bt138 => ((some (([bt138.1, (-1), 1000000000, 1000000001] : List Int) : List Int)).bind fun y141 => ((spec_l1Cur_rare.f bt101.1 bt138.2.1 bt138.2.2 4).bind fun bt144 => (if 0 ≤ bt144.1 then (if bt144.1 < (y141.length : Int) then (some (bt105.1, bt111.1, bt114.1, rd y141 bt144.1)) else (none)) else (none))))))))))) = some (r1, r2, r3, r4) := h
  clear h
  replace H := Option.bind_eq_some_iff.mp H
  obtain ⟨⟨t101, t102, t103⟩, A20, H⟩ := H
  replace H : ((spec_l1Cur_secret.f t101 t102 t103).bind fun bt105 => ((spec_l1Cur_of.f t101 bt105.2.1 bt105.2.2 (([(⟨#[104, 116, 116, 112, 115, 58, 47, 47, 97, 46, 101, 120, 97, 109, 112, 108, 101]⟩ : ByteArray), (⟨#[120]⟩ : ByteArray), (⟨#[]⟩ : ByteArray)] : List ByteArray))).bind fun bt111 => ((spec_l1Cur_bytes.f k t101 bt111.2.1 bt111.2.2 12).bind fun bt114 => ((spec_l1Cur_one.f t101 bt114.2.1 bt114.2.2 20).bind fun bt119 => (if bt119.1 = true then ((spec_l1Cur_pick.f t101 bt119.2.1 bt119.2.2 3).bind fun bt122 => (if 0 ≤ (wrap64 (99 + bt122.1)) then (if (wrap64 (99 + bt122.1) : Int).toNat ≤ 281474976710656 then ((spec_l1Cur_pick.f t101 bt122.2.1 bt122.2.2 300).bind fun bt128 => ((some (([bt128.1, (-1), 1000000000, 1000000001] : List Int) : List Int)).bind fun y131 => ((spec_l1Cur_rare.f t101 bt128.2.1 bt128.2.2 4).bind fun bt134 => (if 0 ≤ bt134.1 then (if bt134.1 < (y131.length : Int) then (some (bt105.1, bt111.1, (List.replicate (wrap64 (99 + bt122.1) : Int).toNat 0), rd y131 bt134.1)) else (none)) else (none))))) else (none)) else (none))) else ((spec_l1Cur_pick.f t101 bt119.2.1 bt119.2.2 300).bind fun bt138 => ((some (([bt138.1, (-1), 1000000000, 1000000001] : List Int) : List Int)).bind fun y141 => ((spec_l1Cur_rare.f t101 bt138.2.1 bt138.2.2 4).bind fun bt144 => (if 0 ≤ bt144.1 then (if bt144.1 < (y141.length : Int) then (some (bt105.1, bt111.1, bt114.1, rd y141 bt144.1)) else (none)) else (none)))))))))) = some (r1, r2, r3, r4) := H
  have A2 := Aside0.mk A20
  clear A20
  replace H := Option.bind_eq_some_iff.mp H
  obtain ⟨⟨t105, t106, t107⟩, A30, H⟩ := H
  replace H : ((spec_l1Cur_of.f t101 t106 t107 (([(⟨#[104, 116, 116, 112, 115, 58, 47, 47, 97, 46, 101, 120, 97, 109, 112, 108, 101]⟩ : ByteArray), (⟨#[120]⟩ : ByteArray), (⟨#[]⟩ : ByteArray)] : List ByteArray))).bind fun bt111 => ((spec_l1Cur_bytes.f k t101 bt111.2.1 bt111.2.2 12).bind fun bt114 => ((spec_l1Cur_one.f t101 bt114.2.1 bt114.2.2 20).bind fun bt119 => (if bt119.1 = true then ((spec_l1Cur_pick.f t101 bt119.2.1 bt119.2.2 3).bind fun bt122 => (if 0 ≤ (wrap64 (99 + bt122.1)) then (if (wrap64 (99 + bt122.1) : Int).toNat ≤ 281474976710656 then ((spec_l1Cur_pick.f t101 bt122.2.1 bt122.2.2 300).bind fun bt128 => ((some (([bt128.1, (-1), 1000000000, 1000000001] : List Int) : List Int)).bind fun y131 => ((spec_l1Cur_rare.f t101 bt128.2.1 bt128.2.2 4).bind fun bt134 => (if 0 ≤ bt134.1 then (if bt134.1 < (y131.length : Int) then (some (t105, bt111.1, (List.replicate (wrap64 (99 + bt122.1) : Int).toNat 0), rd y131 bt134.1)) else (none)) else (none))))) else (none)) else (none))) else ((spec_l1Cur_pick.f t101 bt119.2.1 bt119.2.2 300).bind fun bt138 => ((some (([bt138.1, (-1), 1000000000, 1000000001] : List Int) : List Int)).bind fun y141 => ((spec_l1Cur_rare.f t101 bt138.2.1 bt138.2.2 4).bind fun bt144 => (if 0 ≤ bt144.1 then (if bt144.1 < (y141.length : Int) then (some (t105, bt111.1, bt114.1, rd y141 bt144.1)) else (none)) else (none))))))))) = some (r1, r2, r3, r4) := H
  have A3 := Aside0.mk A30
  clear A30
  obtain ⟨y108, hy108⟩ : ∃ y_ : List ByteArray, y_ = (([(⟨#[104, 116, 116, 112, 115, 58, 47, 47, 97, 46, 101, 120, 97, 109, 112, 108, 101]⟩ : ByteArray), (⟨#[120]⟩ : ByteArray), (⟨#[]⟩ : ByteArray)] : List ByteArray)) := ⟨_, rfl⟩
  replace H : ((spec_l1Cur_of.f t101 t106 t107 y108).bind fun bt111 => ((spec_l1Cur_bytes.f k t101 bt111.2.1 bt111.2.2 12).bind fun bt114 => ((spec_l1Cur_one.f t101 bt114.2.1 bt114.2.2 20).bind fun bt119 => (if bt119.1 = true then ((spec_l1Cur_pick.f t101 bt119.2.1 bt119.2.2 3).bind fun bt122 => (if 0 ≤ (wrap64 (99 + bt122.1)) then (if (wrap64 (99 + bt122.1) : Int).toNat ≤ 281474976710656 then ((spec_l1Cur_pick.f t101 bt122.2.1 bt122.2.2 300).bind fun bt128 => ((some (([bt128.1, (-1), 1000000000, 1000000001] : List Int) : List Int)).bind fun y131 => ((spec_l1Cur_rare.f t101 bt128.2.1 bt128.2.2 4).bind fun bt134 => (if 0 ≤ bt134.1 then (if bt134.1 < (y131.length : Int) then (some (t105, bt111.1, (List.replicate (wrap64 (99 + bt122.1) : Int).toNat 0), rd y131 bt134.1)) else (none)) else (none))))) else (none)) else (none))) else ((spec_l1Cur_pick.f t101 bt119.2.1 bt119.2.2 300).bind fun bt138 => ((some (([bt138.1, (-1), 1000000000, 1000000001] : List Int) : List Int)).bind fun y141 => ((spec_l1Cur_rare.f t101 bt138.2.1 bt138.2.2 4).bind fun bt144 => (if 0 ≤ bt144.1 then (if bt144.1 < (y141.length : Int) then (some (t105, bt111.1, bt114.1, rd y141 bt144.1)) else (none)) else (none))))))))) = some (r1, r2, r3, r4) := by first | (rw [hy108]; with_reducible exact H) | (have H2_ := (Option.bind_some _ _).symm.trans H; rw [hy108]; with_reducible exact H2_) | (have H2_ := (Option.bind_some _ _).symm.trans H; with_reducible exact H2_) | with_reducible exact H | (rw [hy108]; exact H) | exact H
  have Ny108 := Aside0.mk hy108
  clear hy108
  replace H := Option.bind_eq_some_iff.mp H
  obtain ⟨⟨t111, t112, t113⟩, A40, H⟩ := H
  replace H : ((spec_l1Cur_bytes.f k t101 t112 t113 12).bind fun bt114 => ((spec_l1Cur_one.f t101 bt114.2.1 bt114.2.2 20).bind fun bt119 => (if bt119.1 = true then ((spec_l1Cur_pick.f t101 bt119.2.1 bt119.2.2 3).bind fun bt122 => (if 0 ≤ (wrap64 (99 + bt122.1)) then (if (wrap64 (99 + bt122.1) : Int).toNat ≤ 281474976710656 then ((spec_l1Cur_pick.f t101 bt122.2.1 bt122.2.2 300).bind fun bt128 => ((some (([bt128.1, (-1), 1000000000, 1000000001] : List Int) : List Int)).bind fun y131 => ((spec_l1Cur_rare.f t101 bt128.2.1 bt128.2.2 4).bind fun bt134 => (if 0 ≤ bt134.1 then (if bt134.1 < (y131.length : Int) then (some (t105, t111, (List.replicate (wrap64 (99 + bt122.1) : Int).toNat 0), rd y131 bt134.1)) else (none)) else (none))))) else (none)) else (none))) else ((spec_l1Cur_pick.f t101 bt119.2.1 bt119.2.2 300).bind fun bt138 => ((some (([bt138.1, (-1), 1000000000, 1000000001] : List Int) : List Int)).bind fun y141 => ((spec_l1Cur_rare.f t101 bt138.2.1 bt138.2.2 4).bind fun bt144 => (if 0 ≤ bt144.1 then (if bt144.1 < (y141.length : Int) then (some (t105, t111, bt114.1, rd y141 bt144.1)) else (none)) else (none)))))))) = some (r1, r2, r3, r4) := H
  have A4 := Aside0.mk A40
  clear A40
  replace H := Option.bind_eq_some_iff.mp H
  obtain ⟨⟨t114, t117, t118⟩, A50, H⟩ := H
  replace H : ((spec_l1Cur_one.f t101 t117 t118 20).bind fun bt119 => (if bt119.1 = true then ((spec_l1Cur_pick.f t101 bt119.2.1 bt119.2.2 3).bind fun bt122 => (if 0 ≤ (wrap64 (99 + bt122.1)) then (if (wrap64 (99 + bt122.1) : Int).toNat ≤ 281474976710656 then ((spec_l1Cur_pick.f t101 bt122.2.1 bt122.2.2 300).bind fun bt128 => ((some (([bt128.1, (-1), 1000000000, 1000000001] : List Int) : List Int)).bind fun y131 => ((spec_l1Cur_rare.f t101 bt128.2.1 bt128.2.2 4).bind fun bt134 => (if 0 ≤ bt134.1 then (if bt134.1 < (y131.length : Int) then (some (t105, t111, (List.replicate (wrap64 (99 + bt122.1) : Int).toNat 0), rd y131 bt134.1)) else (none)) else (none))))) else (none)) else (none))) else ((spec_l1Cur_pick.f t101 bt119.2.1 bt119.2.2 300).bind fun bt138 => ((some (([bt138.1, (-1), 1000000000, 1000000001] : List Int) : List Int)).bind fun y141 => ((spec_l1Cur_rare.f t101 bt138.2.1 bt138.2.2 4).bind fun bt144 => (if 0 ≤ bt144.1 then (if bt144.1 < (y141.length : Int) then (some (t105, t111, t114, rd y141 bt144.1)) else (none)) else (none))))))) = some (r1, r2, r3, r4) := H
  have A5 := Aside0.mk A50
  clear A50
  replace H := Option.bind_eq_some_iff.mp H
  obtain ⟨⟨t119, t120, t121⟩, A60, H⟩ := H
  replace H : (if t119 = true then ((spec_l1Cur_pick.f t101 t120 t121 3).bind fun bt122 => (if 0 ≤ (wrap64 (99 + bt122.1)) then (if (wrap64 (99 + bt122.1) : Int).toNat ≤ 281474976710656 then ((spec_l1Cur_pick.f t101 bt122.2.1 bt122.2.2 300).bind fun bt128 => ((some (([bt128.1, (-1), 1000000000, 1000000001] : List Int) : List Int)).bind fun y131 => ((spec_l1Cur_rare.f t101 bt128.2.1 bt128.2.2 4).bind fun bt134 => (if 0 ≤ bt134.1 then (if bt134.1 < (y131.length : Int) then (some (t105, t111, (List.replicate (wrap64 (99 + bt122.1) : Int).toNat 0), rd y131 bt134.1)) else (none)) else (none))))) else (none)) else (none))) else ((spec_l1Cur_pick.f t101 t120 t121 300).bind fun bt138 => ((some (([bt138.1, (-1), 1000000000, 1000000001] : List Int) : List Int)).bind fun y141 => ((spec_l1Cur_rare.f t101 bt138.2.1 bt138.2.2 4).bind fun bt144 => (if 0 ≤ bt144.1 then (if bt144.1 < (y141.length : Int) then (some (t105, t111, t114, rd y141 bt144.1)) else (none)) else (none)))))) = some (r1, r2, r3, r4) := H
  have A6 := Aside0.mk A60
  clear A60
  by_cases c7 : t119 = true
  · subst c7
    have H1 : ((spec_l1Cur_pick.f t101 t120 t121 3).bind fun bt122 => (if 0 ≤ (wrap64 (99 + bt122.1)) then (if (wrap64 (99 + bt122.1) : Int).toNat ≤ 281474976710656 then ((spec_l1Cur_pick.f t101 bt122.2.1 bt122.2.2 300).bind fun bt128 => ((some (([bt128.1, (-1), 1000000000, 1000000001] : List Int) : List Int)).bind fun y131 => ((spec_l1Cur_rare.f t101 bt128.2.1 bt128.2.2 4).bind fun bt134 => (if 0 ≤ bt134.1 then (if bt134.1 < (y131.length : Int) then (some (t105, t111, (List.replicate (wrap64 (99 + bt122.1) : Int).toNat 0), rd y131 bt134.1)) else (none)) else (none))))) else (none)) else (none))) = some (r1, r2, r3, r4) := by rw [if_pos rfl] at H; exact H
    clear H
    have H := H1
    clear H1
    replace H := Option.bind_eq_some_iff.mp H
    obtain ⟨⟨t122, t123, t124⟩, A80, H⟩ := H
    replace H : (if 0 ≤ (wrap64 (99 + t122)) then (if (wrap64 (99 + t122) : Int).toNat ≤ 281474976710656 then ((spec_l1Cur_pick.f t101 t123 t124 300).bind fun bt128 => ((some (([bt128.1, (-1), 1000000000, 1000000001] : List Int) : List Int)).bind fun y131 => ((spec_l1Cur_rare.f t101 bt128.2.1 bt128.2.2 4).bind fun bt134 => (if 0 ≤ bt134.1 then (if bt134.1 < (y131.length : Int) then (some (t105, t111, (List.replicate (wrap64 (99 + t122) : Int).toNat 0), rd y131 bt134.1)) else (none)) else (none))))) else (none)) else (none)) = some (r1, r2, r3, r4) := H
    have A8 := Aside0.mk A80
    clear A80
    obtain ⟨ji9, hji9⟩ : ∃ j_ : Int, (wrap64 (99 + t122)) = j_ := ⟨_, rfl⟩
    replace H : (if 0 ≤ (ji9) then (if (ji9 : Int).toNat ≤ 281474976710656 then ((spec_l1Cur_pick.f t101 t123 t124 300).bind fun bt128 => ((some (([bt128.1, (-1), 1000000000, 1000000001] : List Int) : List Int)).bind fun y131 => ((spec_l1Cur_rare.f t101 bt128.2.1 bt128.2.2 4).bind fun bt134 => (if 0 ≤ bt134.1 then (if bt134.1 < (y131.length : Int) then (some (t105, t111, (List.replicate (ji9 : Int).toNat 0), rd y131 bt134.1)) else (none)) else (none))))) else (none)) else (none)) = some (r1, r2, r3, r4) := by first | (rw [hji9] at H; exact H) | (simp only [hji9] at H ⊢; exact H)
    (try rw [hji9] at A2)
    (try rw [hji9] at A3)
    (try rw [hji9] at A4)
    (try rw [hji9] at A5)
    (try rw [hji9] at A6)
    (try rw [hji9] at A8)
    have hji9w : (IntKind.i64.wrap (99 + t122)) = ji9 := (i64_w _).trans hji9
    by_cases c10 : 0 ≤ (ji9)
    · rw [if_pos c10] at H
      have c10b0 := eq_true c10
      have c10b1 : decide (0 ≤ (ji9)) = true := decide_eq_true c10
      clear c10
      by_cases c11 : (ji9 : Int).toNat ≤ 281474976710656
      · rw [if_pos c11] at H
        have c11b0 := eq_true c11
        have c11b1 : decide ((ji9 : Int).toNat ≤ 281474976710656) = true := decide_eq_true c11
        clear c11
        obtain ⟨y125, hy125⟩ : ∃ y_ : List Int, y_ = (List.replicate (ji9 : Int).toNat 0) := ⟨_, rfl⟩
        replace H : ((spec_l1Cur_pick.f t101 t123 t124 300).bind fun bt128 => ((some (([bt128.1, (-1), 1000000000, 1000000001] : List Int) : List Int)).bind fun y131 => ((spec_l1Cur_rare.f t101 bt128.2.1 bt128.2.2 4).bind fun bt134 => (if 0 ≤ bt134.1 then (if bt134.1 < (y131.length : Int) then (some (t105, t111, y125, rd y131 bt134.1)) else (none)) else (none))))) = some (r1, r2, r3, r4) := by first | (rw [hy125]; with_reducible exact H) | (have H2_ := (Option.bind_some _ _).symm.trans H; rw [hy125]; with_reducible exact H2_) | (have H2_ := (Option.bind_some _ _).symm.trans H; with_reducible exact H2_) | with_reducible exact H | (rw [hy125]; exact H) | exact H
        have Ny125 := Aside0.mk hy125
        clear hy125
        replace H := Option.bind_eq_some_iff.mp H
        obtain ⟨⟨t128, t129, t130⟩, A120, H⟩ := H
        replace H : ((some (([t128, (-1), 1000000000, 1000000001] : List Int) : List Int)).bind fun y131 => ((spec_l1Cur_rare.f t101 t129 t130 4).bind fun bt134 => (if 0 ≤ bt134.1 then (if bt134.1 < (y131.length : Int) then (some (t105, t111, y125, rd y131 bt134.1)) else (none)) else (none)))) = some (r1, r2, r3, r4) := H
        have A12 := Aside0.mk A120
        clear A120
        obtain ⟨y131, hy131⟩ : ∃ y_ : List Int, y_ = (([t128, (-1), 1000000000, 1000000001] : List Int)) := ⟨_, rfl⟩
        replace H : ((spec_l1Cur_rare.f t101 t129 t130 4).bind fun bt134 => (if 0 ≤ bt134.1 then (if bt134.1 < (y131.length : Int) then (some (t105, t111, y125, rd y131 bt134.1)) else (none)) else (none))) = some (r1, r2, r3, r4) := by first | (rw [hy131]; with_reducible exact H) | (have H2_ := (Option.bind_some _ _).symm.trans H; rw [hy131]; with_reducible exact H2_) | (have H2_ := (Option.bind_some _ _).symm.trans H; with_reducible exact H2_) | with_reducible exact H | (rw [hy131]; exact H) | exact H
        have Ny131 := Aside0.mk hy131
        clear hy131
        replace H := Option.bind_eq_some_iff.mp H
        obtain ⟨⟨t134, t135, t136⟩, A130, H⟩ := H
        replace H : (if 0 ≤ t134 then (if t134 < (y131.length : Int) then (some (t105, t111, y125, rd y131 t134)) else (none)) else (none)) = some (r1, r2, r3, r4) := H
        have A13 := Aside0.mk A130
        clear A130
        by_cases c14 : 0 ≤ t134
        · rw [if_pos c14] at H
          have c14b0 : decide (0 ≤ t134) = true := decide_eq_true c14
          clear c14
          by_cases c15 : t134 < (y131.length : Int)
          · rw [if_pos c15] at H
            have c15b0 : decide (t134 < (y131.length : Int)) = true := decide_eq_true c15
            clear c15
            simp only [Option.some.injEq, Prod.mk.injEq] at H
            obtain ⟨rfl, rfl, rfl, rfl⟩ := H
            go_enter Try.func39, Try.ntmps39
            try go_wp2_with (first | ((with_reducible refine gate_box (t := 119) rfl ?_); refine boxGoesL_ (some 12) rfl rfl (t := 119) (cs := #[.slice A0 l0.length c0, .int .i64 0, .int .u64 0]) (by first | (go_simp; done) | (go_simp; rfl)) ?_; (with_reducible refine (newCur.calls _ _ l0 0 0 t101 t102 t103 w _ ?side1 ?side2 ?side3 A2.out).mono ?_); (case side1 => repeat (first | (with_reducible first | exact HB.out | apply below_alloc | apply pw_below_drewN | apply below_drew1) | exact HB.out)); (case side2 => exact HR0.out); (case side3 => exact HC0.out); rintro e w16 ⟨g104, rfl, hi, hb, hb2⟩; refine ⟨_, rfl, ?_⟩; have n0_ := Aside0.mk (hb); have n1_ := Aside0.mk (hi); clear HB; have HB := n0_; have HI104 := n1_; clear n0_ n1_; (try clear hb); (try clear hb2); (try clear hk); (try clear hi)) | ((with_reducible refine gate_callee (f := 92) rfl ?_); refine goesL_ (some 14) rfl rfl Try.func92 (by kernel_rfl) rfl #[.pointer (some ⟨g104, 0, none⟩)] rfl (by (try simp only [List.map_toArray, List.map_cons, List.map_nil]); first | done | rfl | (simp only [List.length_drop, List.length_take]; rfl)) ?_; (with_reducible refine (spec_l1Cur_secret.calls g104 t101 t102 t103 t105 t106 t107 w _ ?side1 ?side2 A3.out).mono ?_); (case side1 => repeat (first | (with_reducible first | exact HI104.out | apply IsS119.alloc | apply IsS119.drewN | apply IsS119.drew | apply IsS119.set_1 | apply IsS119.set_2) | exact HI104.out)); (case side2 => repeat (first | (with_reducible first | exact HB.out | apply below_alloc | apply pw_below_drewN | apply below_drew1 | refine below_set ?_ (IsS119.ge HI104.out)) | exact HB.out)); rintro e w17 ⟨rfl, hi, hb, hk⟩; refine ⟨_, rfl, ?_⟩; have n0_ := Aside0.mk (hb); have n1_ := Aside0.mk (hi); clear HB; clear HI104; have HB := n0_; have HI104 := n1_; clear n0_ n1_; (try clear hb); (try clear hb2); (try clear hk); (try clear hi)) | ((with_reducible refine gate_dst (N := 16) rfl ?_); refine Kd.R_lit Kd.string _ 9 ?hg (N := 16) ?hd (xs := ([(⟨#[104, 116, 116, 112, 115, 58, 47, 47, 97, 46, 101, 120, 97, 109, 112, 108, 101]⟩ : ByteArray), (⟨#[120]⟩ : ByteArray), (⟨#[]⟩ : ByteArray)] : List ByteArray)) (inner := [.string (⟨#[104, 116, 116, 112, 115, 58, 47, 47, 97, 46, 101, 120, 97, 109, 112, 108, 101]⟩ : ByteArray), .string (⟨#[120]⟩ : ByteArray), .string (⟨#[]⟩ : ByteArray)]) (ok := fun _ => True) (okp := fun _ => True) ?hr ?hp (fun _ hk => by first | exact hk | trivial | (simp_all; done) | grind) trivial (Below.refl _ _) (Nat.le_refl _) (by simp) ?_; (case hd => rfl); (case hg => rfl); (case hr => first | (go_simp; done) | (go_simp; rfl)); (case hp => exact (Reps.one (show Kd.M Kd.string _ _ _ (⟨#[104, 116, 116, 112, 115, 58, 47, 47, 97, 46, 101, 120, 97, 109, 112, 108, 101]⟩ : ByteArray) [.string (⟨#[104, 116, 116, 112, 115, 58, 47, 47, 97, 46, 101, 120, 97, 109, 112, 108, 101]⟩ : ByteArray)] from rfl) (Reps.one (show Kd.M Kd.string _ _ _ (⟨#[120]⟩ : ByteArray) [.string (⟨#[120]⟩ : ByteArray)] from rfl) (Reps.one (show Kd.M Kd.string _ _ _ (⟨#[]⟩ : ByteArray) [.string (⟨#[]⟩ : ByteArray)] from rfl) (Reps.none _ _))))); intro v109 w18 ho19 hb hg_ hnew_; clear hg_ hnew_; (first | rw [← Ny108.out] at ho19 | (simp only [Int.reduceToNat] at ho19; rw [← Ny108.out] at ho19)); have n0_ := Aside0.mk (Kd.R_lower ho19 (below_size (by repeat (first | (with_reducible first | exact HB.out | apply below_alloc | apply pw_below_drewN | apply below_drew1 | refine below_set ?_ (IsS119.ge HI104.out)) | exact HB.out)))); have n1_ := Aside0.mk (IsS119.below (by repeat (first | (with_reducible first | exact HI104.out | apply IsS119.alloc | apply IsS119.drewN | apply IsS119.drew | apply IsS119.set_1 | apply IsS119.set_2) | exact HI104.out)) hb); have n2_ := Aside0.mk (below_step (by repeat (first | (with_reducible first | exact HB.out | apply below_alloc | apply pw_below_drewN | apply below_drew1 | refine below_set ?_ (IsS119.ge HI104.out)) | exact HB.out)) hb); clear HI104; clear HB; have HO110 := n0_; have HI104 := n1_; have HB := n2_; clear n0_ n1_ n2_; clear hb ho19; obtain ⟨Ao20, co20, eo20⟩ := Kd.R_slice HO110.out; subst eo20) | ((with_reducible refine gate_callee (f := 93) rfl ?_); refine goesL_ (some 17) rfl rfl Try.func93 (by kernel_rfl) rfl #[.pointer (some ⟨g104, 0, none⟩), .slice Ao20 y108.length co20] rfl (by (try simp only [List.map_toArray, List.map_cons, List.map_nil]); first | done | rfl | (simp only [List.length_drop, List.length_take]; rfl)) ?_; (with_reducible refine (spec_l1Cur_of.calls g104 t101 t106 t107 _ _ y108 t111 t112 t113 w _ ?side1 ?side2 ?side3 ?side4 ?side5 A4.out).mono ?_); (case side1 => repeat (first | (with_reducible first | exact HI104.out | apply IsS119.alloc | apply IsS119.drewN | apply IsS119.drew | apply IsS119.set_1 | apply IsS119.set_2) | exact HI104.out)); (case side2 => repeat (first | (with_reducible first | exact HB.out | apply below_alloc | apply pw_below_drewN | apply below_drew1 | refine below_set ?_ (IsS119.ge HI104.out)) | exact HB.out)); (case side3 => repeat (first | exact (Kd.R_reads' HO110.out).2.2 | (with_reducible refine Kd.C_alloc ?_ _) | (with_reducible refine Kd.C_drewN ?_ _) | (with_reducible refine Kd.C_drew ?_))); (case side4 => exact (Kd.R_reads' HO110.out).2.1); (case side5 => exact far_slice (IsS119.own_ne HI104.out HO110.out (by decide))); rintro e w21 ⟨rfl, hi, hb, hk⟩; refine ⟨_, rfl, ?_⟩; have n0_ := Aside0.mk (Kd.R_mono (Kd.R_keep (IsS119.apart (show IsS119 w _ g104 t101 t106 t107 from by repeat (first | (with_reducible first | exact HI104.out | apply IsS119.alloc | apply IsS119.drewN | apply IsS119.drew | apply IsS119.set_1 | apply IsS119.set_2) | exact HI104.out)) (by (with_reducible repeat (first | apply Kd.R_alloc | apply Kd.R_drewN | apply Kd.R_drew)); first | exact HO110.out | exact Kd.R_mono HO110.out (fun _ hk => by first | trivial | (simp_all; done) | grind)) (by decide)) hk (fun _ h => h.2)) (fun _ h => h.1)); have n1_ := Aside0.mk (hb); have n2_ := Aside0.mk (hi); clear HO110; clear HB; clear HI104; have HO110 := n0_; have HB := n1_; have HI104 := n2_; clear n0_ n1_ n2_; (try clear hb); (try clear hb2); (try clear hk); (try clear hi)) | ((with_reducible refine gate_callee (f := 94) rfl ?_); refine goesL_ (some 19) rfl rfl Try.func94 (by kernel_rfl) rfl #[.pointer (some ⟨g104, 0, none⟩), .int .i64 12] rfl (by (try simp only [List.map_toArray, List.map_cons, List.map_nil]); first | done | rfl | (simp only [List.length_drop, List.length_take]; rfl)) ?_; (with_reducible refine (spec_l1Cur_bytes.calls k g104 t101 t112 t113 12 t114 t117 t118 w _ ?side1 ?side2 A5.out).mono ?_); (case side1 => repeat (first | (with_reducible first | exact HI104.out | apply IsS119.alloc | apply IsS119.drewN | apply IsS119.drew | apply IsS119.set_1 | apply IsS119.set_2) | exact HI104.out)); (case side2 => repeat (first | (with_reducible first | exact HB.out | apply below_alloc | apply pw_below_drewN | apply below_drew1 | refine below_set ?_ (IsS119.ge HI104.out)) | exact HB.out)); rintro e w22 ⟨v115, rfl, ho0, hi, hb, hk⟩; refine ⟨_, rfl, ?_⟩; have n0_ := Aside0.mk (Kd.R_mono (Kd.R_keep (IsS119.apart (show IsS119 w _ g104 t101 t112 t113 from by repeat (first | (with_reducible first | exact HI104.out | apply IsS119.alloc | apply IsS119.drewN | apply IsS119.drew | apply IsS119.set_1 | apply IsS119.set_2) | exact HI104.out)) (by (with_reducible repeat (first | apply Kd.R_alloc | apply Kd.R_drewN | apply Kd.R_drew)); first | exact HO110.out | exact Kd.R_mono HO110.out (fun _ hk => by first | trivial | (simp_all; done) | grind)) (by decide)) hk (fun _ h => h.2)) (fun _ h => h.1)); have n1_ := Aside0.mk (Kd.R_lower ho0 (below_size (by repeat (first | (with_reducible first | exact HB.out | apply below_alloc | apply pw_below_drewN | apply below_drew1 | refine below_set ?_ (IsS119.ge HI104.out)) | exact HB.out)))); have n2_ := Aside0.mk (hb); have n3_ := Aside0.mk (hi); clear HO110; clear HB; clear HI104; have HO110 := n0_; have HO116 := n1_; have HB := n2_; have HI104 := n3_; clear n0_ n1_ n2_ n3_; (try clear hb); (try clear hb2); (try clear hk); (try clear hi); (try clear ho0)) | ((with_reducible refine gate_callee (f := 90) rfl ?_); refine goesL_ (some 21) rfl rfl Try.func90 (by kernel_rfl) rfl #[.pointer (some ⟨g104, 0, none⟩), .int .i64 20] rfl (by (try simp only [List.map_toArray, List.map_cons, List.map_nil]); first | done | rfl | (simp only [List.length_drop, List.length_take]; rfl)) ?_; (with_reducible refine (spec_l1Cur_one.calls g104 t101 t117 t118 20 true t120 t121 w _ ?side1 ?side2 A6.out).mono ?_); (case side1 => repeat (first | (with_reducible first | exact HI104.out | apply IsS119.alloc | apply IsS119.drewN | apply IsS119.drew | apply IsS119.set_1 | apply IsS119.set_2) | exact HI104.out)); (case side2 => repeat (first | (with_reducible first | exact HB.out | apply below_alloc | apply pw_below_drewN | apply below_drew1 | refine below_set ?_ (IsS119.ge HI104.out)) | exact HB.out)); rintro e w23 ⟨rfl, hi, hb, hk⟩; refine ⟨_, rfl, ?_⟩; have n0_ := Aside0.mk (Kd.R_mono (Kd.R_keep (IsS119.apart (show IsS119 w _ g104 t101 t117 t118 from by repeat (first | (with_reducible first | exact HI104.out | apply IsS119.alloc | apply IsS119.drewN | apply IsS119.drew | apply IsS119.set_1 | apply IsS119.set_2) | exact HI104.out)) (by (with_reducible repeat (first | apply Kd.R_alloc | apply Kd.R_drewN | apply Kd.R_drew)); first | exact HO110.out | exact Kd.R_mono HO110.out (fun _ hk => by first | trivial | (simp_all; done) | grind)) (by decide)) hk (fun _ h => h.2)) (fun _ h => h.1)); have n1_ := Aside0.mk (Kd.R_mono (Kd.R_keep (IsS119.apart (show IsS119 w _ g104 t101 t117 t118 from by repeat (first | (with_reducible first | exact HI104.out | apply IsS119.alloc | apply IsS119.drewN | apply IsS119.drew | apply IsS119.set_1 | apply IsS119.set_2) | exact HI104.out)) (by (with_reducible repeat (first | apply Kd.R_alloc | apply Kd.R_drewN | apply Kd.R_drew)); first | exact HO116.out | exact Kd.R_mono HO116.out (fun _ hk => by first | trivial | (simp_all; done) | grind)) (by decide)) hk (fun _ h => h.2)) (fun _ h => h.1)); have n2_ := Aside0.mk (hb); have n3_ := Aside0.mk (hi); clear HO110; clear HO116; clear HB; clear HI104; have HO110 := n0_; have HO116 := n1_; have HB := n2_; have HI104 := n3_; clear n0_ n1_ n2_ n3_; (try clear hb); (try clear hb2); (try clear hk); (try clear hi)) | ((with_reducible refine gate_callee (f := 88) rfl ?_); refine goesL_ (some 23) rfl rfl Try.func88 (by kernel_rfl) rfl #[.pointer (some ⟨g104, 0, none⟩), .int .i64 3] rfl (by (try simp only [List.map_toArray, List.map_cons, List.map_nil]); first | done | rfl | (simp only [List.length_drop, List.length_take]; rfl)) ?_; (with_reducible refine (spec_l1Cur_pick.calls g104 t101 t120 t121 3 t122 t123 t124 w _ ?side1 ?side2 A8.out).mono ?_); (case side1 => repeat (first | (with_reducible first | exact HI104.out | apply IsS119.alloc | apply IsS119.drewN | apply IsS119.drew | apply IsS119.set_1 | apply IsS119.set_2) | exact HI104.out)); (case side2 => repeat (first | (with_reducible first | exact HB.out | apply below_alloc | apply pw_below_drewN | apply below_drew1 | refine below_set ?_ (IsS119.ge HI104.out)) | exact HB.out)); rintro e w24 ⟨rfl, hi, hb, hk⟩; refine ⟨_, rfl, ?_⟩; have n0_ := Aside0.mk (Kd.R_mono (Kd.R_keep (IsS119.apart (show IsS119 w _ g104 t101 t120 t121 from by repeat (first | (with_reducible first | exact HI104.out | apply IsS119.alloc | apply IsS119.drewN | apply IsS119.drew | apply IsS119.set_1 | apply IsS119.set_2) | exact HI104.out)) (by (with_reducible repeat (first | apply Kd.R_alloc | apply Kd.R_drewN | apply Kd.R_drew)); first | exact HO110.out | exact Kd.R_mono HO110.out (fun _ hk => by first | trivial | (simp_all; done) | grind)) (by decide)) hk (fun _ h => h.2)) (fun _ h => h.1)); have n1_ := Aside0.mk (Kd.R_mono (Kd.R_keep (IsS119.apart (show IsS119 w _ g104 t101 t120 t121 from by repeat (first | (with_reducible first | exact HI104.out | apply IsS119.alloc | apply IsS119.drewN | apply IsS119.drew | apply IsS119.set_1 | apply IsS119.set_2) | exact HI104.out)) (by (with_reducible repeat (first | apply Kd.R_alloc | apply Kd.R_drewN | apply Kd.R_drew)); first | exact HO116.out | exact Kd.R_mono HO116.out (fun _ hk => by first | trivial | (simp_all; done) | grind)) (by decide)) hk (fun _ h => h.2)) (fun _ h => h.1)); have n2_ := Aside0.mk (hb); have n3_ := Aside0.mk (hi); clear HO110; clear HO116; clear HB; clear HI104; have HO110 := n0_; have HO116 := n1_; have HB := n2_; have HI104 := n3_; clear n0_ n1_ n2_ n3_; (try clear hb); (try clear hb2); (try clear hk); (try clear hi)) | ((with_reducible refine gate_dst (N := 25) rfl ?_); refine Kd.R_make (Kd.int .u8) _ 5 rfl (N := 25) rfl 26 _ _ rfl ji9 rfl rfl Try.underlying26 (.int .u8 0) 1 info5 rfl (by decide) (by omega) 0 (ok := fun _ => True) (okp := fun _ => True) rfl (fun _ hk => by first | exact hk | trivial | (simp_all; done) | grind) trivial (of_decide_eq_true (by first | (with_reducible assumption) | assumption)) (Nat.le_trans (Nat.mul_le_mul_right _ (of_decide_eq_true (by first | (with_reducible assumption) | assumption) : ji9.toNat ≤ 281474976710656)) (by omega)) (Below.refl _ _) (Nat.le_refl _) ?_; intro v126 w25 ho26 hb hg_ hnew_; clear hg_ hnew_; (first | rw [← Ny125.out] at ho26 | (simp only [Int.reduceToNat] at ho26; rw [← Ny125.out] at ho26)); have n0_ := Aside0.mk (Kd.R_below (by (with_reducible repeat (first | apply Kd.R_alloc | apply Kd.R_drewN | apply Kd.R_drew)); first | exact HO110.out | exact Kd.R_mono HO110.out (fun _ hk => by first | trivial | (simp_all; done) | grind)) hb); have n1_ := Aside0.mk (Kd.R_elder' (by (with_reducible repeat (first | apply Kd.R_alloc | apply Kd.R_drewN | apply Kd.R_drew)); first | exact HO116.out | exact Kd.R_mono HO116.out (fun _ hk => by first | trivial | (simp_all; done) | grind)) (Kd.R_base ho26) hb); have n2_ := Aside0.mk (Kd.R_lower (Kd.R_new' ho26 (Kd.R_lt (by (with_reducible repeat (first | apply Kd.R_alloc | apply Kd.R_drewN | apply Kd.R_drew)); first | exact HO116.out | exact Kd.R_mono HO116.out (fun _ hk => by first | trivial | (simp_all; done) | grind)))) (below_size (by repeat (first | (with_reducible first | exact HB.out | apply below_alloc | apply pw_below_drewN | apply below_drew1 | refine below_set ?_ (IsS119.ge HI104.out)) | exact HB.out)))); have n3_ := Aside0.mk (IsS119.below (by repeat (first | (with_reducible first | exact HI104.out | apply IsS119.alloc | apply IsS119.drewN | apply IsS119.drew | apply IsS119.set_1 | apply IsS119.set_2) | exact HI104.out)) hb); have n4_ := Aside0.mk (below_step (by repeat (first | (with_reducible first | exact HB.out | apply below_alloc | apply pw_below_drewN | apply below_drew1 | refine below_set ?_ (IsS119.ge HI104.out)) | exact HB.out)) hb); clear HO110; clear HO116; clear HI104; clear HB; have HO110 := n0_; have HO116 := n1_; have HO127 := n2_; have HI104 := n3_; have HB := n4_; clear n0_ n1_ n2_ n3_ n4_; clear hb ho26))
            have pi137 : (0 ≤ (t134 : Int)) = True := eq_true (of_decide_eq_true (by first | (with_reducible assumption) | assumption))
            have qi137 : (t134 < (y131.length : Int)) = True := eq_true (of_decide_eq_true (by first | (with_reducible assumption) | assumption))
            have n0_ := Aside0.mk (Kd.R_drew HO110.out)
            have n1_ := Aside0.mk (Kd.R_drew HO116.out)
            have n2_ := Aside0.mk (Kd.R_drew HO127.out)
            have n3_ := Aside0.mk (IsS119.drew HI104.out)
            have n4_ := Aside0.mk (below_drew1 HB.out)
            clear HO110
            clear HO116
            clear HO127
            clear HI104
            clear HB
            have HO110 := n0_
            have HO116 := n1_
            have HO127 := n2_
            have HI104 := n3_
            have HB := n4_
            clear n0_ n1_ n2_ n3_ n4_
            refine start_ (n := 14) (S := fun w' => True) (ds := []) #[false, false, false, false, false, false, false, false, false, false, false, false, false, false] (by kernel_rfl) rfl rfl trivial (fun hHeld => ?_); refine with_tabW spec_DrawAnswerChallenge.tab7 spec_DrawAnswerChallenge.bits7 (fun HT_ HW_ => ?_)
            generalize w25.drew = w27 at HO110 HO116 HO127 HI104 HB hHeld ⊢
            refine pure_ (i := 0) (N := some 26) (v := ?_) (a' := ?_) #[true, false, false, false, false, false, false, false, false, false, false, false, false, false] rfl rfl (any_of HT_.out (by kernel_rfl)) (fun _ _ _ h => h) (Or.inl ⟨by rfl, ?_⟩) ?_ ?_
            rotate_left
            · intro w'
              go_simp
              with_reducible rfl
            rotate_left
            · simp only [Act.put, List.setIfInBounds_toArray, List.set_cons_zero, List.set_cons_succ, i64_w, i32_w]
              rfl
            refine pure_ (i := 1) (N := some 27) (v := ?_) (a' := ?_) #[true, true, false, false, false, false, false, false, false, false, false, false, false, false] rfl rfl (any_of HT_.out (by kernel_rfl)) (fun _ _ _ h => h) (Or.inl ⟨by rfl, ?_⟩) ?_ ?_
            rotate_left
            · intro w'
              go_simp
              with_reducible rfl
            rotate_left
            · simp only [Act.put, List.setIfInBounds_toArray, List.set_cons_zero, List.set_cons_succ, i64_w, i32_w]
              rfl
            refine pure_ (i := 2) (N := some 28) (v := ?_) (a' := ?_) #[true, true, true, false, false, false, false, false, false, false, false, false, false, false] rfl rfl (any_of HT_.out (by kernel_rfl)) (fun _ _ _ h => h) (Or.inl ⟨by rfl, ?_⟩) ?_ ?_
            rotate_left
            · intro w'
              go_simp
              with_reducible rfl
            rotate_left
            · simp only [Act.put, List.setIfInBounds_toArray, List.set_cons_zero, List.set_cons_succ, i64_w, i32_w]
              rfl
            refine pure_ (i := 3) (N := some 29) (v := ?_) (a' := ?_) #[true, true, true, true, false, false, false, false, false, false, false, false, false, false] rfl rfl (any_of HT_.out (by kernel_rfl)) (fun _ _ _ h => h) (Or.inl ⟨by rfl, ?_⟩) ?_ ?_
            rotate_left
            · intro w'
              go_simp
              with_reducible rfl
            rotate_left
            · simp only [Act.put, List.setIfInBounds_toArray, List.set_cons_zero, List.set_cons_succ, i64_w, i32_w]
              rfl
            refine pure_ (i := 6) (N := some 32) (v := ?_) (a' := ?_) #[true, true, true, true, false, false, true, false, false, false, false, false, false, false] rfl rfl (any_of HT_.out (by kernel_rfl)) (fun _ _ _ h => h) (Or.inl ⟨by rfl, ?_⟩) ?_ ?_
            rotate_left
            · intro w'
              go_simp
              with_reducible rfl
            rotate_left
            · simp only [Act.put, List.setIfInBounds_toArray, List.set_cons_zero, List.set_cons_succ, i64_w, i32_w]
              rfl
            refine inv_at [4, 5, 7, 8, 9, 10, 11, 12, 13] (fun a0_ b a w' => ∃ (v132 : Value) (adz_v132 : Addr) (m8_ : Value), a = putSel a0_ b [(4, 30, .int .i64 t128), (5, 31, v132), (7, 33, .int .i64 t134), (8, 34, m8_), (9, 35, .int .i64 (rd y131 t134)), (10, 2, .int .i64 t105), (11, 3, .string t111), (12, 4, v126), (13, 5, .int .i64 (rd y131 t134))] ∧ (Kd.R Kd.string 9 w' w.heap.size (fun _ => True) (.slice Ao20 y108.length co20) y108) ∧ (Kd.R (Kd.int .u8) 5 w' w.heap.size (fun k_ => some k_ ≠ (v126 : Value).ownBlock) v115 t114) ∧ (Kd.R (Kd.int .u8) 5 w' w.heap.size (fun k_ => some k_ ≠ (v115 : Value).ownBlock) v126 y125) ∧ (b 4 = false → IsS119 w w' g104 t101 t123 t124) ∧ (Below w.heap.size w w') ∧ (b 4 = true → b 7 = false → IsS119 w w' g104 t101 t129 t130) ∧ (b 5 = true → Kd.R (Kd.int .i64) 3 w' w.heap.size (fun _ => True) v132 y131) ∧ (b 5 = true → ∃ c_, (v132 : Value) = .slice (some adz_v132) y131.length c_) ∧ (b 7 = true → IsS119 w w' g104 t101 t135 t136) ∧ (b 8 = true → (m8_ : Value) = .pointer (some (adz_v132.add (t134).toNat)))) HT_.out HW_.out (by kernel_rfl) (by kernel_rfl) ?_ ?_ ?_
            · exact ⟨.bool false, ⟨0, 0, none⟩, .bool false, by simp only [putSel, Bool.false_eq_true, if_false], (by first | exact HO110.out | exact Kd.R_mono HO110.out (fun _ hk => by first | trivial | (simp_all; done) | grind) | exact Kd.V_mono HO110.out (fun _ hk => by first | trivial | (simp_all; done) | grind) | exact Kd.S_mono HO110.out (fun _ hk => by first | trivial | (simp_all; done) | grind) | exact Kd.Q_mono HO110.out (fun _ hk => by first | trivial | (simp_all; done) | grind) | exact Kd.N_mono HO110.out (fun _ hk => by first | trivial | (simp_all; done) | grind)), (by first | exact HO116.out | exact Kd.R_mono HO116.out (fun _ hk => by first | trivial | (simp_all; done) | grind) | exact Kd.V_mono HO116.out (fun _ hk => by first | trivial | (simp_all; done) | grind) | exact Kd.S_mono HO116.out (fun _ hk => by first | trivial | (simp_all; done) | grind) | exact Kd.Q_mono HO116.out (fun _ hk => by first | trivial | (simp_all; done) | grind) | exact Kd.N_mono HO116.out (fun _ hk => by first | trivial | (simp_all; done) | grind)), (by first | exact HO127.out | exact Kd.R_mono HO127.out (fun _ hk => by first | trivial | (simp_all; done) | grind) | exact Kd.V_mono HO127.out (fun _ hk => by first | trivial | (simp_all; done) | grind) | exact Kd.S_mono HO127.out (fun _ hk => by first | trivial | (simp_all; done) | grind) | exact Kd.Q_mono HO127.out (fun _ hk => by first | trivial | (simp_all; done) | grind) | exact Kd.N_mono HO127.out (fun _ hk => by first | trivial | (simp_all; done) | grind)), fun _ => HI104.out, HB.out, fun h_ => absurd h_ (by decide), fun h_ => absurd h_ (by decide), fun h_ => absurd h_ (by decide), fun h_ => absurd h_ (by decide), fun h_ => absurd h_ (by decide)⟩
            · skip
              clear HB HI104 HO110 HO116 HO127
              refine steps_cons ?_ ?_
              · rintro b a w' ⟨v132, adz_v132, m8_, ha, Q_HO110, Q_HO116, Q_HO127, Q_HI104, Q_HB, Q_HI104_e4, Q_HO133, Q_HA_HO133, Q_HI104_e7, Q_X8_⟩ hb_ hon hoff
                refine ⟨_, rfl, fun K hK => ?_⟩
                have e29 : a.tmps[29]? = some (.pointer (some ⟨g104, 0, none⟩)) := by rw [ha]; exact (putSel_off rfl).trans rfl
                replace ha := Aside0.mk ha
                have HO110 := Aside0.mk Q_HO110
                have HO116 := Aside0.mk Q_HO116
                have HO127 := Aside0.mk Q_HO127
                have HI104 := Aside0.mk (Q_HI104 hb_)
                have HB := Aside0.mk Q_HB
                refine goes_ Try.func88 (by kernel_rfl) rfl #[.pointer (some ⟨g104, 0, none⟩), .int .i64 300] (by rfl) rfl rfl (by first | (simp only [List.map_toArray, List.map_cons, List.map_nil, Act.eval, Array.getD_eq_getD_getElem?, Option.getD_some, e29]; done) | (simp only [List.map_toArray, List.map_cons, List.map_nil, Act.eval, Array.getD_eq_getD_getElem?, Option.getD_some, e29]; rfl)) ?_
                with_reducible refine (spec_l1Cur_pick.calls g104 t101 t123 t124 300 t128 t129 t130 w _ ?side1 ?side2 A12.out).mono ?_
                (case side1 => repeat (first | (with_reducible first | exact HI104.out | apply IsS119.alloc | apply IsS119.drewN | apply IsS119.drew | apply IsS119.set_1 | apply IsS119.set_2) | exact HI104.out))
                (case side2 => repeat (first | (with_reducible first | exact HB.out | apply below_alloc | apply pw_below_drewN | apply below_drew1 | refine below_set ?_ (IsS119.ge HI104.out)) | exact HB.out))
                rintro e w28 ⟨rfl, hi, hb, hk⟩
                refine ⟨_, rfl, ?_⟩
                have n0_ := Aside0.mk (Kd.R_mono (Kd.R_keep (IsS119.apart (show IsS119 w _ g104 t101 t123 t124 from by repeat (first | (with_reducible first | exact HI104.out | apply IsS119.alloc | apply IsS119.drewN | apply IsS119.drew | apply IsS119.set_1 | apply IsS119.set_2) | exact HI104.out)) (by (with_reducible repeat (first | apply Kd.R_alloc | apply Kd.R_drewN | apply Kd.R_drew)); first | exact HO110.out | exact Kd.R_mono HO110.out (fun _ hk => by first | trivial | (simp_all; done) | grind)) (by decide)) hk (fun _ h => h.2)) (fun _ h => h.1))
                have n1_ := Aside0.mk (Kd.R_mono (Kd.R_keep (IsS119.apart (show IsS119 w _ g104 t101 t123 t124 from by repeat (first | (with_reducible first | exact HI104.out | apply IsS119.alloc | apply IsS119.drewN | apply IsS119.drew | apply IsS119.set_1 | apply IsS119.set_2) | exact HI104.out)) (by (with_reducible repeat (first | apply Kd.R_alloc | apply Kd.R_drewN | apply Kd.R_drew)); first | exact HO116.out | exact Kd.R_mono HO116.out (fun _ hk => by first | trivial | (simp_all; done) | grind)) (by decide)) hk (fun _ h => h.2)) (fun _ h => h.1))
                have n2_ := Aside0.mk (Kd.R_mono (Kd.R_keep (IsS119.apart (show IsS119 w _ g104 t101 t123 t124 from by repeat (first | (with_reducible first | exact HI104.out | apply IsS119.alloc | apply IsS119.drewN | apply IsS119.drew | apply IsS119.set_1 | apply IsS119.set_2) | exact HI104.out)) (by (with_reducible repeat (first | apply Kd.R_alloc | apply Kd.R_drewN | apply Kd.R_drew)); first | exact HO127.out | exact Kd.R_mono HO127.out (fun _ hk => by first | trivial | (simp_all; done) | grind)) (by decide)) hk (fun _ h => h.2)) (fun _ h => h.1))
                have n3_ := Aside0.mk (hb)
                have n4_ := Aside0.mk (hi)
                clear HO110
                clear HO116
                clear HO127
                clear HB
                clear HI104
                have HO110 := n0_
                have HO116 := n1_
                have HO127 := n2_
                have HB := n3_
                have HI104 := n4_
                clear n0_ n1_ n2_ n3_ n4_
                (try clear hb)
                (try clear hb2)
                (try clear hk)
                (try clear hi)
                refine hK.out _ _ ⟨v132, adz_v132, m8_, (by rw [ha.out]; exact putSel_upk 0 hb_ rfl rfl rfl), (by (with_reducible repeat (first | apply Kd.R_alloc | apply Kd.R_drewN | apply Kd.R_drew)); first | exact HO110.out | exact Kd.R_mono HO110.out (fun _ hk => by first | trivial | (simp_all; done) | grind)), (by (with_reducible repeat (first | apply Kd.R_alloc | apply Kd.R_drewN | apply Kd.R_drew)); exact Kd.R_mono HO116.out (fun _ hk => by first | exact hk.2 | trivial | (simp_all; done) | grind)), (by (with_reducible repeat (first | apply Kd.R_alloc | apply Kd.R_drewN | apply Kd.R_drew)); exact Kd.R_mono HO127.out (fun _ hk => by first | exact hk.2 | trivial | (simp_all; done) | grind)), fun h0_ => absurd ((up_self b 4).symm.trans h0_) (by decide), (by repeat (first | (with_reducible first | exact HB.out | apply below_alloc | apply pw_below_drewN | apply below_drew1 | refine below_set ?_ (IsS119.ge HI104.out)) | exact HB.out)), fun _ _ => (by repeat (first | (with_reducible first | exact HI104.out | apply IsS119.alloc | apply IsS119.drewN | apply IsS119.drew | apply IsS119.set_1 | apply IsS119.set_2) | exact HI104.out)), fun h0_ => absurd ((hoff 5 (by kernel_rfl)).symm.trans h0_) (by decide), fun h0_ => absurd ((hoff 5 (by kernel_rfl)).symm.trans h0_) (by decide), fun h0_ => absurd ((hoff 7 (by kernel_rfl)).symm.trans h0_) (by decide), fun h0_ => absurd ((hoff 8 (by kernel_rfl)).symm.trans h0_) (by decide)⟩
              refine steps_cons ?_ ?_
              · rintro b a w' ⟨v132, adz_v132, m8_, ha, Q_HO110, Q_HO116, Q_HO127, Q_HI104, Q_HB, Q_HI104_e4, Q_HO133, Q_HA_HO133, Q_HI104_e7, Q_X8_⟩ hb_ hon hoff
                refine ⟨_, rfl, fun K hK => ?_⟩
                have e30 : a.tmps[30]? = some (.int .i64 t128) := by rw [ha]; exact putSel_on (e := (4, 30, .int .i64 t128)) 0 rfl rfl (hon 4 (by kernel_rfl)) rfl
                replace ha := Aside0.mk ha
                have HO110 := Aside0.mk Q_HO110
                have HO116 := Aside0.mk Q_HO116
                have HO127 := Aside0.mk Q_HO127
                have HB := Aside0.mk Q_HB
                refine Kd.R_lit_step (Kd.int .i64) _ 3 ?hg (N := 31) ?hd (xs := ([t128, (-1), 1000000000, 1000000001] : List Int)) (inner := [.int .i64 t128, .int .i64 (-1), .int .i64 1000000000, .int .i64 1000000001]) (ok := fun _ => True) (okp := fun _ => True) ?hr ?hp (fun _ hk => by first | exact hk | trivial | (simp_all; done) | grind) trivial (Below.refl _ _) (Nat.le_refl _) (by simp) ?_; (case hd => rfl); (case hg => rfl); (case hr => first | (go_simp; done) | (go_simp; rfl)); (case hp => exact (Reps.one (show Kd.M (Kd.int .i64) _ _ _ t128 [.int .i64 t128] from rfl) (Reps.one (show Kd.M (Kd.int .i64) _ _ _ (-1) [.int .i64 (-1)] from rfl) (Reps.one (show Kd.M (Kd.int .i64) _ _ _ 1000000000 [.int .i64 1000000000] from rfl) (Reps.one (show Kd.M (Kd.int .i64) _ _ _ 1000000001 [.int .i64 1000000001] from rfl) (Reps.none _ _))))))
                intro v132 w30 ho31 hb hg_ hnew_
                clear hg_ hnew_
                (first | rw [← Ny131.out] at ho31 | (simp only [Int.reduceToNat] at ho31; rw [← Ny131.out] at ho31))
                have n0_ := Aside0.mk (Kd.R_below (by (with_reducible repeat (first | apply Kd.R_alloc | apply Kd.R_drewN | apply Kd.R_drew)); first | exact HO110.out | exact Kd.R_mono HO110.out (fun _ hk => by first | trivial | (simp_all; done) | grind)) hb)
                have n1_ := Aside0.mk (Kd.R_below (by (with_reducible repeat (first | apply Kd.R_alloc | apply Kd.R_drewN | apply Kd.R_drew)); first | exact HO116.out | exact Kd.R_mono HO116.out (fun _ hk => by first | trivial | (simp_all; done) | grind)) hb)
                have n2_ := Aside0.mk (Kd.R_below (by (with_reducible repeat (first | apply Kd.R_alloc | apply Kd.R_drewN | apply Kd.R_drew)); first | exact HO127.out | exact Kd.R_mono HO127.out (fun _ hk => by first | trivial | (simp_all; done) | grind)) hb)
                have n3_ := Aside0.mk (Kd.R_lower ho31 (below_size (by repeat (first | (with_reducible first | exact HB.out | apply below_alloc | apply pw_below_drewN | apply below_drew1) | exact HB.out))))
                have n5_ := Aside0.mk (below_step (by repeat (first | (with_reducible first | exact HB.out | apply below_alloc | apply pw_below_drewN | apply below_drew1) | exact HB.out)) hb)
                have z_HI104_e4 := fun (h0_ : b 4 = true) (h1_ : b 7 = false) => (show IsS119 w w30 g104 t101 t129 t130 from by first | exact (IsS119.below (by repeat (first | (with_reducible first | exact (Q_HI104_e4 h0_ h1_) | apply IsS119.alloc | apply IsS119.drewN | apply IsS119.drew | apply IsS119.set_1 | apply IsS119.set_2) | exact (Q_HI104_e4 h0_ h1_))) hb))
                have z_HI104_e7 := fun (h0_ : b 7 = true) => (show IsS119 w w30 g104 t101 t135 t136 from by first | exact (IsS119.below (by repeat (first | (with_reducible first | exact (Q_HI104_e7 h0_) | apply IsS119.alloc | apply IsS119.drewN | apply IsS119.drew | apply IsS119.set_1 | apply IsS119.set_2) | exact (Q_HI104_e7 h0_))) hb))
                clear HO110
                clear HO116
                clear HO127
                clear HB
                have HO110 := n0_
                have HO116 := n1_
                have HO127 := n2_
                have HO133 := n3_
                have HB := n5_
                clear n0_ n1_ n2_ n3_ n5_
                clear hb ho31
                obtain ⟨Ao32, co32, eo32⟩ := Kd.R_slice HO133.out
                subst eo32
                obtain ⟨ado32, fo32, _⟩ := Kd.at_int (Kd.R_reads' HO133.out).2.2 0 (by decide) (by rw [Ny131.out]; simp)
                cases fo32
                refine hK.out _ _ ⟨.slice (some ado32) y131.length co32, ado32, m8_, (by rw [ha.out]; exact putSel_upk 1 hb_ rfl rfl rfl), (by (with_reducible repeat (first | apply Kd.R_alloc | apply Kd.R_drewN | apply Kd.R_drew)); first | exact HO110.out | exact Kd.R_mono HO110.out (fun _ hk => by first | trivial | (simp_all; done) | grind)), (by (with_reducible repeat (first | apply Kd.R_alloc | apply Kd.R_drewN | apply Kd.R_drew)); first | exact HO116.out | exact Kd.R_mono HO116.out (fun _ hk => by first | trivial | (simp_all; done) | grind)), (by (with_reducible repeat (first | apply Kd.R_alloc | apply Kd.R_drewN | apply Kd.R_drew)); first | exact HO127.out | exact Kd.R_mono HO127.out (fun _ hk => by first | trivial | (simp_all; done) | grind)), fun h0_ => absurd ((hon 4 (by kernel_rfl)).symm.trans h0_) (by decide), (by repeat (first | (with_reducible first | exact HB.out | apply below_alloc | apply pw_below_drewN | apply below_drew1) | exact HB.out)), z_HI104_e4, fun _ => (by (with_reducible repeat (first | apply Kd.R_alloc | apply Kd.R_drewN | apply Kd.R_drew)); first | exact HO133.out | exact Kd.R_mono HO133.out (fun _ hk => by first | trivial | (simp_all; done) | grind)), fun _ => ⟨_, rfl⟩, z_HI104_e7, fun h0_ => absurd ((hoff 8 (by kernel_rfl)).symm.trans h0_) (by decide)⟩
              refine steps_cons ?_ ?_
              · rintro b a w' ⟨v132, adz_v132, m8_, ha, Q_HO110, Q_HO116, Q_HO127, Q_HI104, Q_HB, Q_HI104_e4, Q_HO133, Q_HA_HO133, Q_HI104_e7, Q_X8_⟩ hb_ hon hoff
                refine ⟨_, rfl, fun K hK => ?_⟩
                have e32 : a.tmps[32]? = some (.pointer (some ⟨g104, 0, none⟩)) := by rw [ha]; exact (putSel_off rfl).trans rfl
                replace ha := Aside0.mk ha
                have HO110 := Aside0.mk Q_HO110
                have HO116 := Aside0.mk Q_HO116
                have HO127 := Aside0.mk Q_HO127
                have HB := Aside0.mk Q_HB
                have HI104 := Aside0.mk (Q_HI104_e4 (hon 4 (by kernel_rfl)) hb_)
                refine goes_ Try.func95 (by kernel_rfl) rfl #[.pointer (some ⟨g104, 0, none⟩), .int .i64 4] (by rfl) rfl rfl (by first | (simp only [List.map_toArray, List.map_cons, List.map_nil, Act.eval, Array.getD_eq_getD_getElem?, Option.getD_some, e32]; done) | (simp only [List.map_toArray, List.map_cons, List.map_nil, Act.eval, Array.getD_eq_getD_getElem?, Option.getD_some, e32]; rfl)) ?_
                with_reducible refine (spec_l1Cur_rare.calls g104 t101 t129 t130 4 t134 t135 t136 w _ ?side1 ?side2 A13.out).mono ?_
                (case side1 => repeat (first | (with_reducible first | exact HI104.out | apply IsS119.alloc | apply IsS119.drewN | apply IsS119.drew | apply IsS119.set_1 | apply IsS119.set_2) | exact HI104.out))
                (case side2 => repeat (first | (with_reducible first | exact HB.out | apply below_alloc | apply pw_below_drewN | apply below_drew1 | refine below_set ?_ (IsS119.ge HI104.out)) | exact HB.out))
                rintro e w30 ⟨rfl, hi, hb, hk⟩
                refine ⟨_, rfl, ?_⟩
                have n0_ := Aside0.mk (Kd.R_mono (Kd.R_keep (IsS119.apart (show IsS119 w _ g104 t101 t129 t130 from by repeat (first | (with_reducible first | exact HI104.out | apply IsS119.alloc | apply IsS119.drewN | apply IsS119.drew | apply IsS119.set_1 | apply IsS119.set_2) | exact HI104.out)) (by (with_reducible repeat (first | apply Kd.R_alloc | apply Kd.R_drewN | apply Kd.R_drew)); first | exact HO110.out | exact Kd.R_mono HO110.out (fun _ hk => by first | trivial | (simp_all; done) | grind)) (by decide)) hk (fun _ h => h.2)) (fun _ h => h.1))
                have n1_ := Aside0.mk (Kd.R_mono (Kd.R_keep (IsS119.apart (show IsS119 w _ g104 t101 t129 t130 from by repeat (first | (with_reducible first | exact HI104.out | apply IsS119.alloc | apply IsS119.drewN | apply IsS119.drew | apply IsS119.set_1 | apply IsS119.set_2) | exact HI104.out)) (by (with_reducible repeat (first | apply Kd.R_alloc | apply Kd.R_drewN | apply Kd.R_drew)); first | exact HO116.out | exact Kd.R_mono HO116.out (fun _ hk => by first | trivial | (simp_all; done) | grind)) (by decide)) hk (fun _ h => h.2)) (fun _ h => h.1))
                have n2_ := Aside0.mk (Kd.R_mono (Kd.R_keep (IsS119.apart (show IsS119 w _ g104 t101 t129 t130 from by repeat (first | (with_reducible first | exact HI104.out | apply IsS119.alloc | apply IsS119.drewN | apply IsS119.drew | apply IsS119.set_1 | apply IsS119.set_2) | exact HI104.out)) (by (with_reducible repeat (first | apply Kd.R_alloc | apply Kd.R_drewN | apply Kd.R_drew)); first | exact HO127.out | exact Kd.R_mono HO127.out (fun _ hk => by first | trivial | (simp_all; done) | grind)) (by decide)) hk (fun _ h => h.2)) (fun _ h => h.1))
                have n3_ := Aside0.mk (hb)
                have n4_ := Aside0.mk (hi)
                have z_HO133 := fun (h0_ : b 5 = true) => (show Kd.R (Kd.int .i64) 3 w30 w.heap.size (fun _ => True) v132 y131 from by first | exact (Kd.R_mono (Kd.R_keep (IsS119.apart (show IsS119 w _ g104 t101 t129 t130 from by repeat (first | (with_reducible first | exact HI104.out | apply IsS119.alloc | apply IsS119.drewN | apply IsS119.drew | apply IsS119.set_1 | apply IsS119.set_2) | exact HI104.out)) (by (with_reducible repeat (first | apply Kd.R_alloc | apply Kd.R_drewN | apply Kd.R_drew)); exact (Q_HO133 h0_)) (by decide)) hk (fun _ h => h.2)) (fun _ h => h.1)) | exact Kd.R_mono (Kd.R_mono (Kd.R_keep (IsS119.apart (show IsS119 w _ g104 t101 t129 t130 from by repeat (first | (with_reducible first | exact HI104.out | apply IsS119.alloc | apply IsS119.drewN | apply IsS119.drew | apply IsS119.set_1 | apply IsS119.set_2) | exact HI104.out)) (by (with_reducible repeat (first | apply Kd.R_alloc | apply Kd.R_drewN | apply Kd.R_drew)); exact (Q_HO133 h0_)) (by decide)) hk (fun _ h => h.2)) (fun _ h => h.1)) (fun _ h_ => by first | trivial | exact h_ | exact h_.1))
                clear HO110
                clear HO116
                clear HO127
                clear HB
                clear HI104
                have HO110 := n0_
                have HO116 := n1_
                have HO127 := n2_
                have HB := n3_
                have HI104 := n4_
                clear n0_ n1_ n2_ n3_ n4_
                (try clear hb)
                (try clear hb2)
                (try clear hk)
                (try clear hi)
                refine hK.out _ _ ⟨v132, adz_v132, m8_, (by rw [ha.out]; exact putSel_upk 2 hb_ rfl rfl rfl), (by (with_reducible repeat (first | apply Kd.R_alloc | apply Kd.R_drewN | apply Kd.R_drew)); first | exact HO110.out | exact Kd.R_mono HO110.out (fun _ hk => by first | trivial | (simp_all; done) | grind)), (by (with_reducible repeat (first | apply Kd.R_alloc | apply Kd.R_drewN | apply Kd.R_drew)); first | exact HO116.out | exact Kd.R_mono HO116.out (fun _ hk => by first | trivial | (simp_all; done) | grind)), (by (with_reducible repeat (first | apply Kd.R_alloc | apply Kd.R_drewN | apply Kd.R_drew)); first | exact HO127.out | exact Kd.R_mono HO127.out (fun _ hk => by first | trivial | (simp_all; done) | grind)), fun h0_ => absurd ((hon 4 (by kernel_rfl)).symm.trans h0_) (by decide), (by repeat (first | (with_reducible first | exact HB.out | apply below_alloc | apply pw_below_drewN | apply below_drew1 | refine below_set ?_ (IsS119.ge HI104.out)) | exact HB.out)), fun _ h1_ => absurd ((up_self b 7).symm.trans h1_) (by decide), z_HO133, Q_HA_HO133, fun _ => (by repeat (first | (with_reducible first | exact HI104.out | apply IsS119.alloc | apply IsS119.drewN | apply IsS119.drew | apply IsS119.set_1 | apply IsS119.set_2) | exact HI104.out)), fun h0_ => absurd ((hoff 8 (by kernel_rfl)).symm.trans h0_) (by decide)⟩
              refine steps_cons ?_ ?_
              · rintro b a w' ⟨v132, adz_v132, m8_, ha, Q_HO110, Q_HO116, Q_HO127, Q_HI104, Q_HB, Q_HI104_e4, Q_HO133, Q_HA_HO133, Q_HI104_e7, Q_X8_⟩ hb_ hon hoff
                refine ⟨_, rfl, fun K hK => ?_⟩
                have e31 : a.tmps[31]? = some (v132) := by rw [ha]; exact putSel_on (e := (5, 31, v132)) 1 rfl rfl (hon 5 (by kernel_rfl)) rfl
                have e33 : a.tmps[33]? = some (.int .i64 t134) := by rw [ha]; exact putSel_on (e := (7, 33, .int .i64 t134)) 2 rfl rfl (hon 7 (by kernel_rfl)) rfl
                replace ha := Aside0.mk ha
                have HO110 := Aside0.mk Q_HO110
                have HO116 := Aside0.mk Q_HO116
                have HO127 := Aside0.mk Q_HO127
                have HB := Aside0.mk Q_HB
                have HO133 := Aside0.mk (Q_HO133 (hon 5 (by kernel_rfl)))
                have HA_HO133 := Aside0.mk (Q_HA_HO133 (hon 5 (by kernel_rfl)))
                have HI104 := Aside0.mk (Q_HI104_e7 (hon 7 (by kernel_rfl)))
                obtain ⟨c_, hv_⟩ := HA_HO133.out
                rw [hv_] at e31
                refine value_ (w1 := w') (v := .pointer (some (adz_v132.add (t134).toNat))) (by rfl) rfl ?_ ?_
                · go_simp
                  (try simp only [i64_w])
                  try rfl
                refine hK.out _ _ ⟨v132, adz_v132, (.pointer (some (adz_v132.add (t134).toNat))), (by rw [ha.out]; exact putSel_upk 3 hb_ rfl rfl rfl), Q_HO110, Q_HO116, Q_HO127, fun h0_ => absurd ((hon 4 (by kernel_rfl)).symm.trans h0_) (by decide), Q_HB, fun _ h1_ => absurd ((hon 7 (by kernel_rfl)).symm.trans h1_) (by decide), Q_HO133, Q_HA_HO133, Q_HI104_e7, fun _ => rfl⟩
              refine steps_cons ?_ ?_
              · rintro b a w' ⟨v132, adz_v132, m8_, ha, Q_HO110, Q_HO116, Q_HO127, Q_HI104, Q_HB, Q_HI104_e4, Q_HO133, Q_HA_HO133, Q_HI104_e7, Q_X8_⟩ hb_ hon hoff
                refine ⟨_, rfl, fun K hK => ?_⟩
                have e34 : a.tmps[34]? = some (m8_) := by rw [ha]; exact putSel_on (e := (8, 34, m8_)) 3 rfl rfl (hon 8 (by kernel_rfl)) rfl
                rw [Q_X8_ (hon 8 (by kernel_rfl))] at e34
                replace ha := Aside0.mk ha
                have HO110 := Aside0.mk Q_HO110
                have HO116 := Aside0.mk Q_HO116
                have HO127 := Aside0.mk Q_HO127
                have HB := Aside0.mk Q_HB
                have HO133 := Aside0.mk (Q_HO133 (hon 5 (by kernel_rfl)))
                have HA_HO133 := Aside0.mk (Q_HA_HO133 (hon 5 (by kernel_rfl)))
                have HI104 := Aside0.mk (Q_HI104_e7 (hon 7 (by kernel_rfl)))
                obtain ⟨c_, hv_⟩ := HA_HO133.out
                have hF_ := HO133.out
                rw [hv_] at hF_
                obtain ⟨ad_, ea_, hx_⟩ := Kd.at_int (Kd.R_reads' hF_).2.2 t134 (of_eq_true pi137) (of_eq_true qi137)
                cases ea_
                refine value_ (w1 := w') (v := .int .i64 (rd y131 t134)) (by rfl) rfl ?_ ?_
                · go_simp
                  (try simp only [i64_w])
                  try rfl
                refine hK.out _ _ ⟨v132, adz_v132, m8_, (by rw [ha.out]; exact putSel_upk 4 hb_ rfl rfl rfl), Q_HO110, Q_HO116, Q_HO127, fun h0_ => absurd ((hon 4 (by kernel_rfl)).symm.trans h0_) (by decide), Q_HB, fun _ h1_ => absurd ((hon 7 (by kernel_rfl)).symm.trans h1_) (by decide), Q_HO133, Q_HA_HO133, Q_HI104_e7, Q_X8_⟩
              refine steps_cons ?_ ?_
              · rintro b a w' ⟨v132, adz_v132, m8_, ha, Q_HO110, Q_HO116, Q_HO127, Q_HI104, Q_HB, Q_HI104_e4, Q_HO133, Q_HA_HO133, Q_HI104_e7, Q_X8_⟩ hb_ hon hoff
                refine ⟨_, rfl, fun K hK => ?_⟩
                have e26 : a.tmps[26]? = some (.int .i64 t105) := by rw [ha]; exact (putSel_off rfl).trans rfl
                replace ha := Aside0.mk ha
                have HO110 := Aside0.mk Q_HO110
                have HO116 := Aside0.mk Q_HO116
                have HO127 := Aside0.mk Q_HO127
                have HB := Aside0.mk Q_HB
                have HI104 := Aside0.mk (Q_HI104_e7 (hon 7 (by kernel_rfl)))
                refine value_ (w1 := w') (v := .int .i64 t105) (by rfl) rfl ?_ ?_
                · go_simp
                  (try simp only [i64_w])
                  try rfl
                refine hK.out _ _ ⟨v132, adz_v132, m8_, (by rw [ha.out]; exact putSel_upk 5 hb_ rfl rfl rfl), Q_HO110, Q_HO116, Q_HO127, fun h0_ => absurd ((hon 4 (by kernel_rfl)).symm.trans h0_) (by decide), Q_HB, fun _ h1_ => absurd ((hon 7 (by kernel_rfl)).symm.trans h1_) (by decide), Q_HO133, Q_HA_HO133, Q_HI104_e7, Q_X8_⟩
              refine steps_cons ?_ ?_
              · rintro b a w' ⟨v132, adz_v132, m8_, ha, Q_HO110, Q_HO116, Q_HO127, Q_HI104, Q_HB, Q_HI104_e4, Q_HO133, Q_HA_HO133, Q_HI104_e7, Q_X8_⟩ hb_ hon hoff
                refine ⟨_, rfl, fun K hK => ?_⟩
                have e27 : a.tmps[27]? = some (.string t111) := by rw [ha]; exact (putSel_off rfl).trans rfl
                replace ha := Aside0.mk ha
                have HO110 := Aside0.mk Q_HO110
                have HO116 := Aside0.mk Q_HO116
                have HO127 := Aside0.mk Q_HO127
                have HB := Aside0.mk Q_HB
                have HI104 := Aside0.mk (Q_HI104_e7 (hon 7 (by kernel_rfl)))
                refine value_ (w1 := w') (v := .string t111) (by rfl) rfl ?_ ?_
                · go_simp
                  (try simp only [i64_w])
                  try rfl
                refine hK.out _ _ ⟨v132, adz_v132, m8_, (by rw [ha.out]; exact putSel_upk 6 hb_ rfl rfl rfl), Q_HO110, Q_HO116, Q_HO127, fun h0_ => absurd ((hon 4 (by kernel_rfl)).symm.trans h0_) (by decide), Q_HB, fun _ h1_ => absurd ((hon 7 (by kernel_rfl)).symm.trans h1_) (by decide), Q_HO133, Q_HA_HO133, Q_HI104_e7, Q_X8_⟩
              refine steps_cons ?_ ?_
              · rintro b a w' ⟨v132, adz_v132, m8_, ha, Q_HO110, Q_HO116, Q_HO127, Q_HI104, Q_HB, Q_HI104_e4, Q_HO133, Q_HA_HO133, Q_HI104_e7, Q_X8_⟩ hb_ hon hoff
                refine ⟨_, rfl, fun K hK => ?_⟩
                have e28 : a.tmps[28]? = some (v126) := by rw [ha]; exact (putSel_off rfl).trans rfl
                replace ha := Aside0.mk ha
                have HO110 := Aside0.mk Q_HO110
                have HO116 := Aside0.mk Q_HO116
                have HO127 := Aside0.mk Q_HO127
                have HB := Aside0.mk Q_HB
                have HI104 := Aside0.mk (Q_HI104_e7 (hon 7 (by kernel_rfl)))
                refine value_ (w1 := w') (v := v126) (by rfl) rfl ?_ ?_
                · go_simp
                  (try simp only [i64_w])
                  try rfl
                refine hK.out _ _ ⟨v132, adz_v132, m8_, (by rw [ha.out]; exact putSel_upk 7 hb_ rfl rfl rfl), Q_HO110, Q_HO116, Q_HO127, fun h0_ => absurd ((hon 4 (by kernel_rfl)).symm.trans h0_) (by decide), Q_HB, fun _ h1_ => absurd ((hon 7 (by kernel_rfl)).symm.trans h1_) (by decide), Q_HO133, Q_HA_HO133, Q_HI104_e7, Q_X8_⟩
              refine steps_cons ?_ ?_
              · rintro b a w' ⟨v132, adz_v132, m8_, ha, Q_HO110, Q_HO116, Q_HO127, Q_HI104, Q_HB, Q_HI104_e4, Q_HO133, Q_HA_HO133, Q_HI104_e7, Q_X8_⟩ hb_ hon hoff
                refine ⟨_, rfl, fun K hK => ?_⟩
                have e35 : a.tmps[35]? = some (.int .i64 (rd y131 t134)) := by rw [ha]; exact putSel_on (e := (9, 35, .int .i64 (rd y131 t134))) 4 rfl rfl (hon 9 (by kernel_rfl)) rfl
                replace ha := Aside0.mk ha
                have HO110 := Aside0.mk Q_HO110
                have HO116 := Aside0.mk Q_HO116
                have HO127 := Aside0.mk Q_HO127
                have HB := Aside0.mk Q_HB
                have HO133 := Aside0.mk (Q_HO133 (hon 5 (by kernel_rfl)))
                have HA_HO133 := Aside0.mk (Q_HA_HO133 (hon 5 (by kernel_rfl)))
                have HI104 := Aside0.mk (Q_HI104_e7 (hon 7 (by kernel_rfl)))
                refine value_ (w1 := w') (v := .int .i64 (rd y131 t134)) (by rfl) rfl ?_ ?_
                · go_simp
                  (try simp only [i64_w])
                  try rfl
                refine hK.out _ _ ⟨v132, adz_v132, m8_, (by rw [ha.out]; exact putSel_upk 8 hb_ rfl rfl rfl), Q_HO110, Q_HO116, Q_HO127, fun h0_ => absurd ((hon 4 (by kernel_rfl)).symm.trans h0_) (by decide), Q_HB, fun _ h1_ => absurd ((hon 7 (by kernel_rfl)).symm.trans h1_) (by decide), Q_HO133, Q_HA_HO133, Q_HI104_e7, Q_X8_⟩
              exact steps_nil
            rintro b a w33 hall ⟨v132, adz_v132, m8_, ha, Q_HO110, Q_HO116, Q_HO127, Q_HI104, Q_HB, Q_HI104_e4, Q_HO133, Q_HA_HO133, Q_HI104_e7, Q_X8_⟩
            clear HB HI104 HO110 HO116 HO127
            have hb4_ := hall 4 (by kernel_rfl)
            have hb5_ := hall 5 (by kernel_rfl)
            have hb7_ := hall 7 (by kernel_rfl)
            have hb8_ := hall 8 (by kernel_rfl)
            have hb9_ := hall 9 (by kernel_rfl)
            have hb10_ := hall 10 (by kernel_rfl)
            have hb11_ := hall 11 (by kernel_rfl)
            have hb12_ := hall 12 (by kernel_rfl)
            have hb13_ := hall 13 (by kernel_rfl)
            subst ha
            obtain rfl := Q_X8_ hb8_
            simp only [putSel, hb4_, hb5_, hb7_, hb8_, hb9_, hb10_, hb11_, hb12_, hb13_, if_true, Act.put, List.setIfInBounds_toArray, List.set_cons_zero, List.set_cons_succ]
            have HO110 := Aside0.mk Q_HO110
            clear Q_HO110
            have HO116 := Aside0.mk Q_HO116
            clear Q_HO116
            have HO127 := Aside0.mk Q_HO127
            clear Q_HO127
            clear Q_HI104
            have HB := Aside0.mk Q_HB
            clear Q_HB
            clear Q_HI104_e4
            have HO133 := Aside0.mk (Q_HO133 hb5_)
            clear Q_HO133
            have HA_HO133 := Aside0.mk (Q_HA_HO133 hb5_)
            clear Q_HA_HO133
            have HI104 := Aside0.mk (Q_HI104_e7 hb7_)
            clear Q_HI104_e7
            clear hall hb4_ hb5_ hb7_ hb8_ hb9_ hb10_ hb11_ hb12_ hb13_
            obtain ⟨co34, eo34⟩ := HA_HO133.out
            clear HA_HO133
            subst eo34
            try go_wp2
            refine bodyPost_ret (results_list (rs := [.tmp 2, .tmp 3, .tmp 4, .tmp 5]) rfl (by simp) (.tmp (.tmp (.tmp (.tmp .nil))))) rfl ?_
            exact ⟨_, by first | rfl | (simp [errW_none, errW_some] <;> rfl) | (simp only [← hji9]; first | rfl | (simp [errW_none, errW_some] <;> rfl)) | (simp [*, errW_none, errW_some] <;> rfl), by (with_reducible repeat (first | apply Kd.R_alloc | apply Kd.R_drewN | apply Kd.R_drew)); exact Kd.R_mono HO127.out (fun _ hk => by first | exact trivial | trivial | (simp_all; done) | grind), by repeat (first | (with_reducible first | exact HB.out | apply below_alloc | apply pw_below_drewN | apply below_drew1 | refine below_set ?_ (IsS119.ge HI104.out)) | exact HB.out)⟩
          · rw [if_neg c15] at H
            exact absurd H (by simp)
        · rw [if_neg c14] at H
          exact absurd H (by simp)
      · rw [if_neg c11] at H
        exact absurd H (by simp)
    · rw [if_neg c10] at H
      exact absurd H (by simp)
  · replace c7 := Bool.eq_false_iff.mpr c7
    subst c7
    have H1 : ((spec_l1Cur_pick.f t101 t120 t121 300).bind fun bt138 => ((some (([bt138.1, (-1), 1000000000, 1000000001] : List Int) : List Int)).bind fun y141 => ((spec_l1Cur_rare.f t101 bt138.2.1 bt138.2.2 4).bind fun bt144 => (if 0 ≤ bt144.1 then (if bt144.1 < (y141.length : Int) then (some (t105, t111, t114, rd y141 bt144.1)) else (none)) else (none))))) = some (r1, r2, r3, r4) := by rw [if_neg (show ¬ (false = true) by decide)] at H; exact H
    clear H
    have H := H1
    clear H1
    replace H := Option.bind_eq_some_iff.mp H
    obtain ⟨⟨t138, t139, t140⟩, A350, H⟩ := H
    replace H : ((some (([t138, (-1), 1000000000, 1000000001] : List Int) : List Int)).bind fun y141 => ((spec_l1Cur_rare.f t101 t139 t140 4).bind fun bt144 => (if 0 ≤ bt144.1 then (if bt144.1 < (y141.length : Int) then (some (t105, t111, t114, rd y141 bt144.1)) else (none)) else (none)))) = some (r1, r2, r3, r4) := H
    have A35 := Aside0.mk A350
    clear A350
    obtain ⟨y141, hy141⟩ : ∃ y_ : List Int, y_ = (([t138, (-1), 1000000000, 1000000001] : List Int)) := ⟨_, rfl⟩
    replace H : ((spec_l1Cur_rare.f t101 t139 t140 4).bind fun bt144 => (if 0 ≤ bt144.1 then (if bt144.1 < (y141.length : Int) then (some (t105, t111, t114, rd y141 bt144.1)) else (none)) else (none))) = some (r1, r2, r3, r4) := by first | (rw [hy141]; with_reducible exact H) | (have H2_ := (Option.bind_some _ _).symm.trans H; rw [hy141]; with_reducible exact H2_) | (have H2_ := (Option.bind_some _ _).symm.trans H; with_reducible exact H2_) | with_reducible exact H | (rw [hy141]; exact H) | exact H
    have Ny141 := Aside0.mk hy141
    clear hy141
    replace H := Option.bind_eq_some_iff.mp H
    obtain ⟨⟨t144, t145, t146⟩, A360, H⟩ := H
    replace H : (if 0 ≤ t144 then (if t144 < (y141.length : Int) then (some (t105, t111, t114, rd y141 t144)) else (none)) else (none)) = some (r1, r2, r3, r4) := H
    have A36 := Aside0.mk A360
    clear A360
    by_cases c37 : 0 ≤ t144
    · rw [if_pos c37] at H
      have c37b0 : decide (0 ≤ t144) = true := decide_eq_true c37
      clear c37
      by_cases c38 : t144 < (y141.length : Int)
      · rw [if_pos c38] at H
        have c38b0 : decide (t144 < (y141.length : Int)) = true := decide_eq_true c38
        clear c38
        simp only [Option.some.injEq, Prod.mk.injEq] at H
        obtain ⟨rfl, rfl, rfl, rfl⟩ := H
        go_enter Try.func39, Try.ntmps39
        try go_wp2_with (first | ((with_reducible refine gate_box (t := 119) rfl ?_); refine boxGoesL_ (some 12) rfl rfl (t := 119) (cs := #[.slice A0 l0.length c0, .int .i64 0, .int .u64 0]) (by first | (go_simp; done) | (go_simp; rfl)) ?_; (with_reducible refine (newCur.calls _ _ l0 0 0 t101 t102 t103 w _ ?side1 ?side2 ?side3 A2.out).mono ?_); (case side1 => repeat (first | (with_reducible first | exact HB.out | apply below_alloc | apply pw_below_drewN | apply below_drew1) | exact HB.out)); (case side2 => exact HR0.out); (case side3 => exact HC0.out); rintro e w39 ⟨g104, rfl, hi, hb, hb2⟩; refine ⟨_, rfl, ?_⟩; have n0_ := Aside0.mk (hb); have n1_ := Aside0.mk (hi); clear HB; have HB := n0_; have HI104 := n1_; clear n0_ n1_; (try clear hb); (try clear hb2); (try clear hk); (try clear hi)) | ((with_reducible refine gate_callee (f := 92) rfl ?_); refine goesL_ (some 14) rfl rfl Try.func92 (by kernel_rfl) rfl #[.pointer (some ⟨g104, 0, none⟩)] rfl (by (try simp only [List.map_toArray, List.map_cons, List.map_nil]); first | done | rfl | (simp only [List.length_drop, List.length_take]; rfl)) ?_; (with_reducible refine (spec_l1Cur_secret.calls g104 t101 t102 t103 t105 t106 t107 w _ ?side1 ?side2 A3.out).mono ?_); (case side1 => repeat (first | (with_reducible first | exact HI104.out | apply IsS119.alloc | apply IsS119.drewN | apply IsS119.drew | apply IsS119.set_1 | apply IsS119.set_2) | exact HI104.out)); (case side2 => repeat (first | (with_reducible first | exact HB.out | apply below_alloc | apply pw_below_drewN | apply below_drew1 | refine below_set ?_ (IsS119.ge HI104.out)) | exact HB.out)); rintro e w40 ⟨rfl, hi, hb, hk⟩; refine ⟨_, rfl, ?_⟩; have n0_ := Aside0.mk (hb); have n1_ := Aside0.mk (hi); clear HB; clear HI104; have HB := n0_; have HI104 := n1_; clear n0_ n1_; (try clear hb); (try clear hb2); (try clear hk); (try clear hi)) | ((with_reducible refine gate_dst (N := 16) rfl ?_); refine Kd.R_lit Kd.string _ 9 ?hg (N := 16) ?hd (xs := ([(⟨#[104, 116, 116, 112, 115, 58, 47, 47, 97, 46, 101, 120, 97, 109, 112, 108, 101]⟩ : ByteArray), (⟨#[120]⟩ : ByteArray), (⟨#[]⟩ : ByteArray)] : List ByteArray)) (inner := [.string (⟨#[104, 116, 116, 112, 115, 58, 47, 47, 97, 46, 101, 120, 97, 109, 112, 108, 101]⟩ : ByteArray), .string (⟨#[120]⟩ : ByteArray), .string (⟨#[]⟩ : ByteArray)]) (ok := fun _ => True) (okp := fun _ => True) ?hr ?hp (fun _ hk => by first | exact hk | trivial | (simp_all; done) | grind) trivial (Below.refl _ _) (Nat.le_refl _) (by simp) ?_; (case hd => rfl); (case hg => rfl); (case hr => first | (go_simp; done) | (go_simp; rfl)); (case hp => exact (Reps.one (show Kd.M Kd.string _ _ _ (⟨#[104, 116, 116, 112, 115, 58, 47, 47, 97, 46, 101, 120, 97, 109, 112, 108, 101]⟩ : ByteArray) [.string (⟨#[104, 116, 116, 112, 115, 58, 47, 47, 97, 46, 101, 120, 97, 109, 112, 108, 101]⟩ : ByteArray)] from rfl) (Reps.one (show Kd.M Kd.string _ _ _ (⟨#[120]⟩ : ByteArray) [.string (⟨#[120]⟩ : ByteArray)] from rfl) (Reps.one (show Kd.M Kd.string _ _ _ (⟨#[]⟩ : ByteArray) [.string (⟨#[]⟩ : ByteArray)] from rfl) (Reps.none _ _))))); intro v109 w41 ho42 hb hg_ hnew_; clear hg_ hnew_; (first | rw [← Ny108.out] at ho42 | (simp only [Int.reduceToNat] at ho42; rw [← Ny108.out] at ho42)); have n0_ := Aside0.mk (Kd.R_lower ho42 (below_size (by repeat (first | (with_reducible first | exact HB.out | apply below_alloc | apply pw_below_drewN | apply below_drew1 | refine below_set ?_ (IsS119.ge HI104.out)) | exact HB.out)))); have n1_ := Aside0.mk (IsS119.below (by repeat (first | (with_reducible first | exact HI104.out | apply IsS119.alloc | apply IsS119.drewN | apply IsS119.drew | apply IsS119.set_1 | apply IsS119.set_2) | exact HI104.out)) hb); have n2_ := Aside0.mk (below_step (by repeat (first | (with_reducible first | exact HB.out | apply below_alloc | apply pw_below_drewN | apply below_drew1 | refine below_set ?_ (IsS119.ge HI104.out)) | exact HB.out)) hb); clear HI104; clear HB; have HO110 := n0_; have HI104 := n1_; have HB := n2_; clear n0_ n1_ n2_; clear hb ho42; obtain ⟨Ao43, co43, eo43⟩ := Kd.R_slice HO110.out; subst eo43) | ((with_reducible refine gate_callee (f := 93) rfl ?_); refine goesL_ (some 17) rfl rfl Try.func93 (by kernel_rfl) rfl #[.pointer (some ⟨g104, 0, none⟩), .slice Ao43 y108.length co43] rfl (by (try simp only [List.map_toArray, List.map_cons, List.map_nil]); first | done | rfl | (simp only [List.length_drop, List.length_take]; rfl)) ?_; (with_reducible refine (spec_l1Cur_of.calls g104 t101 t106 t107 _ _ y108 t111 t112 t113 w _ ?side1 ?side2 ?side3 ?side4 ?side5 A4.out).mono ?_); (case side1 => repeat (first | (with_reducible first | exact HI104.out | apply IsS119.alloc | apply IsS119.drewN | apply IsS119.drew | apply IsS119.set_1 | apply IsS119.set_2) | exact HI104.out)); (case side2 => repeat (first | (with_reducible first | exact HB.out | apply below_alloc | apply pw_below_drewN | apply below_drew1 | refine below_set ?_ (IsS119.ge HI104.out)) | exact HB.out)); (case side3 => repeat (first | exact (Kd.R_reads' HO110.out).2.2 | (with_reducible refine Kd.C_alloc ?_ _) | (with_reducible refine Kd.C_drewN ?_ _) | (with_reducible refine Kd.C_drew ?_))); (case side4 => exact (Kd.R_reads' HO110.out).2.1); (case side5 => exact far_slice (IsS119.own_ne HI104.out HO110.out (by decide))); rintro e w44 ⟨rfl, hi, hb, hk⟩; refine ⟨_, rfl, ?_⟩; have n0_ := Aside0.mk (Kd.R_mono (Kd.R_keep (IsS119.apart (show IsS119 w _ g104 t101 t106 t107 from by repeat (first | (with_reducible first | exact HI104.out | apply IsS119.alloc | apply IsS119.drewN | apply IsS119.drew | apply IsS119.set_1 | apply IsS119.set_2) | exact HI104.out)) (by (with_reducible repeat (first | apply Kd.R_alloc | apply Kd.R_drewN | apply Kd.R_drew)); first | exact HO110.out | exact Kd.R_mono HO110.out (fun _ hk => by first | trivial | (simp_all; done) | grind)) (by decide)) hk (fun _ h => h.2)) (fun _ h => h.1)); have n1_ := Aside0.mk (hb); have n2_ := Aside0.mk (hi); clear HO110; clear HB; clear HI104; have HO110 := n0_; have HB := n1_; have HI104 := n2_; clear n0_ n1_ n2_; (try clear hb); (try clear hb2); (try clear hk); (try clear hi)) | ((with_reducible refine gate_callee (f := 94) rfl ?_); refine goesL_ (some 19) rfl rfl Try.func94 (by kernel_rfl) rfl #[.pointer (some ⟨g104, 0, none⟩), .int .i64 12] rfl (by (try simp only [List.map_toArray, List.map_cons, List.map_nil]); first | done | rfl | (simp only [List.length_drop, List.length_take]; rfl)) ?_; (with_reducible refine (spec_l1Cur_bytes.calls k g104 t101 t112 t113 12 t114 t117 t118 w _ ?side1 ?side2 A5.out).mono ?_); (case side1 => repeat (first | (with_reducible first | exact HI104.out | apply IsS119.alloc | apply IsS119.drewN | apply IsS119.drew | apply IsS119.set_1 | apply IsS119.set_2) | exact HI104.out)); (case side2 => repeat (first | (with_reducible first | exact HB.out | apply below_alloc | apply pw_below_drewN | apply below_drew1 | refine below_set ?_ (IsS119.ge HI104.out)) | exact HB.out)); rintro e w45 ⟨v115, rfl, ho0, hi, hb, hk⟩; refine ⟨_, rfl, ?_⟩; have n0_ := Aside0.mk (Kd.R_mono (Kd.R_keep (IsS119.apart (show IsS119 w _ g104 t101 t112 t113 from by repeat (first | (with_reducible first | exact HI104.out | apply IsS119.alloc | apply IsS119.drewN | apply IsS119.drew | apply IsS119.set_1 | apply IsS119.set_2) | exact HI104.out)) (by (with_reducible repeat (first | apply Kd.R_alloc | apply Kd.R_drewN | apply Kd.R_drew)); first | exact HO110.out | exact Kd.R_mono HO110.out (fun _ hk => by first | trivial | (simp_all; done) | grind)) (by decide)) hk (fun _ h => h.2)) (fun _ h => h.1)); have n1_ := Aside0.mk (Kd.R_lower ho0 (below_size (by repeat (first | (with_reducible first | exact HB.out | apply below_alloc | apply pw_below_drewN | apply below_drew1 | refine below_set ?_ (IsS119.ge HI104.out)) | exact HB.out)))); have n2_ := Aside0.mk (hb); have n3_ := Aside0.mk (hi); clear HO110; clear HB; clear HI104; have HO110 := n0_; have HO116 := n1_; have HB := n2_; have HI104 := n3_; clear n0_ n1_ n2_ n3_; (try clear hb); (try clear hb2); (try clear hk); (try clear hi); (try clear ho0)) | ((with_reducible refine gate_callee (f := 90) rfl ?_); refine goesL_ (some 21) rfl rfl Try.func90 (by kernel_rfl) rfl #[.pointer (some ⟨g104, 0, none⟩), .int .i64 20] rfl (by (try simp only [List.map_toArray, List.map_cons, List.map_nil]); first | done | rfl | (simp only [List.length_drop, List.length_take]; rfl)) ?_; (with_reducible refine (spec_l1Cur_one.calls g104 t101 t117 t118 20 false t120 t121 w _ ?side1 ?side2 A6.out).mono ?_); (case side1 => repeat (first | (with_reducible first | exact HI104.out | apply IsS119.alloc | apply IsS119.drewN | apply IsS119.drew | apply IsS119.set_1 | apply IsS119.set_2) | exact HI104.out)); (case side2 => repeat (first | (with_reducible first | exact HB.out | apply below_alloc | apply pw_below_drewN | apply below_drew1 | refine below_set ?_ (IsS119.ge HI104.out)) | exact HB.out)); rintro e w46 ⟨rfl, hi, hb, hk⟩; refine ⟨_, rfl, ?_⟩; have n0_ := Aside0.mk (Kd.R_mono (Kd.R_keep (IsS119.apart (show IsS119 w _ g104 t101 t117 t118 from by repeat (first | (with_reducible first | exact HI104.out | apply IsS119.alloc | apply IsS119.drewN | apply IsS119.drew | apply IsS119.set_1 | apply IsS119.set_2) | exact HI104.out)) (by (with_reducible repeat (first | apply Kd.R_alloc | apply Kd.R_drewN | apply Kd.R_drew)); first | exact HO110.out | exact Kd.R_mono HO110.out (fun _ hk => by first | trivial | (simp_all; done) | grind)) (by decide)) hk (fun _ h => h.2)) (fun _ h => h.1)); have n1_ := Aside0.mk (Kd.R_mono (Kd.R_keep (IsS119.apart (show IsS119 w _ g104 t101 t117 t118 from by repeat (first | (with_reducible first | exact HI104.out | apply IsS119.alloc | apply IsS119.drewN | apply IsS119.drew | apply IsS119.set_1 | apply IsS119.set_2) | exact HI104.out)) (by (with_reducible repeat (first | apply Kd.R_alloc | apply Kd.R_drewN | apply Kd.R_drew)); first | exact HO116.out | exact Kd.R_mono HO116.out (fun _ hk => by first | trivial | (simp_all; done) | grind)) (by decide)) hk (fun _ h => h.2)) (fun _ h => h.1)); have n2_ := Aside0.mk (hb); have n3_ := Aside0.mk (hi); clear HO110; clear HO116; clear HB; clear HI104; have HO110 := n0_; have HO116 := n1_; have HB := n2_; have HI104 := n3_; clear n0_ n1_ n2_ n3_; (try clear hb); (try clear hb2); (try clear hk); (try clear hi)))
        have pi147 : (0 ≤ (t144 : Int)) = True := eq_true (of_decide_eq_true (by first | (with_reducible assumption) | assumption))
        have qi147 : (t144 < (y141.length : Int)) = True := eq_true (of_decide_eq_true (by first | (with_reducible assumption) | assumption))
        have n0_ := Aside0.mk (Kd.R_drew HO110.out)
        have n1_ := Aside0.mk (Kd.R_drew HO116.out)
        have n2_ := Aside0.mk (IsS119.drew HI104.out)
        have n3_ := Aside0.mk (below_drew1 HB.out)
        clear HO110
        clear HO116
        clear HI104
        clear HB
        have HO110 := n0_
        have HO116 := n1_
        have HI104 := n2_
        have HB := n3_
        clear n0_ n1_ n2_ n3_
        refine start_ (n := 14) (S := fun w' => True) (ds := []) #[false, false, false, false, false, false, false, false, false, false, false, false, false, false] (by kernel_rfl) rfl rfl trivial (fun hHeld => ?_); refine with_tabW spec_DrawAnswerChallenge.tab7 spec_DrawAnswerChallenge.bits7 (fun HT_ HW_ => ?_)
        generalize w46.drew = w47 at HO110 HO116 HI104 HB hHeld ⊢
        refine pure_ (i := 0) (N := some 26) (v := ?_) (a' := ?_) #[true, false, false, false, false, false, false, false, false, false, false, false, false, false] rfl rfl (any_of HT_.out (by kernel_rfl)) (fun _ _ _ h => h) (Or.inl ⟨by rfl, ?_⟩) ?_ ?_
        rotate_left
        · intro w'
          go_simp
          with_reducible rfl
        rotate_left
        · simp only [Act.put, List.setIfInBounds_toArray, List.set_cons_zero, List.set_cons_succ, i64_w, i32_w]
          rfl
        refine pure_ (i := 1) (N := some 27) (v := ?_) (a' := ?_) #[true, true, false, false, false, false, false, false, false, false, false, false, false, false] rfl rfl (any_of HT_.out (by kernel_rfl)) (fun _ _ _ h => h) (Or.inl ⟨by rfl, ?_⟩) ?_ ?_
        rotate_left
        · intro w'
          go_simp
          with_reducible rfl
        rotate_left
        · simp only [Act.put, List.setIfInBounds_toArray, List.set_cons_zero, List.set_cons_succ, i64_w, i32_w]
          rfl
        refine pure_ (i := 2) (N := some 28) (v := ?_) (a' := ?_) #[true, true, true, false, false, false, false, false, false, false, false, false, false, false] rfl rfl (any_of HT_.out (by kernel_rfl)) (fun _ _ _ h => h) (Or.inl ⟨by rfl, ?_⟩) ?_ ?_
        rotate_left
        · intro w'
          go_simp
          with_reducible rfl
        rotate_left
        · simp only [Act.put, List.setIfInBounds_toArray, List.set_cons_zero, List.set_cons_succ, i64_w, i32_w]
          rfl
        refine pure_ (i := 3) (N := some 29) (v := ?_) (a' := ?_) #[true, true, true, true, false, false, false, false, false, false, false, false, false, false] rfl rfl (any_of HT_.out (by kernel_rfl)) (fun _ _ _ h => h) (Or.inl ⟨by rfl, ?_⟩) ?_ ?_
        rotate_left
        · intro w'
          go_simp
          with_reducible rfl
        rotate_left
        · simp only [Act.put, List.setIfInBounds_toArray, List.set_cons_zero, List.set_cons_succ, i64_w, i32_w]
          rfl
        refine pure_ (i := 6) (N := some 32) (v := ?_) (a' := ?_) #[true, true, true, true, false, false, true, false, false, false, false, false, false, false] rfl rfl (any_of HT_.out (by kernel_rfl)) (fun _ _ _ h => h) (Or.inl ⟨by rfl, ?_⟩) ?_ ?_
        rotate_left
        · intro w'
          go_simp
          with_reducible rfl
        rotate_left
        · simp only [Act.put, List.setIfInBounds_toArray, List.set_cons_zero, List.set_cons_succ, i64_w, i32_w]
          rfl
        refine inv_at [4, 5, 7, 8, 9, 10, 11, 12, 13] (fun a0_ b a w' => ∃ (v142 : Value) (adz_v142 : Addr) (m8_ : Value), a = putSel a0_ b [(4, 30, .int .i64 t138), (5, 31, v142), (7, 33, .int .i64 t144), (8, 34, m8_), (9, 35, .int .i64 (rd y141 t144)), (10, 2, .int .i64 t105), (11, 3, .string t111), (12, 4, v115), (13, 5, .int .i64 (rd y141 t144))] ∧ (Kd.R Kd.string 9 w' w.heap.size (fun _ => True) (.slice Ao43 y108.length co43) y108) ∧ (Kd.R (Kd.int .u8) 5 w' w.heap.size (fun _ => True) v115 t114) ∧ (b 4 = false → IsS119 w w' g104 t101 t120 t121) ∧ (Below w.heap.size w w') ∧ (b 4 = true → b 7 = false → IsS119 w w' g104 t101 t139 t140) ∧ (b 5 = true → Kd.R (Kd.int .i64) 3 w' w.heap.size (fun _ => True) v142 y141) ∧ (b 5 = true → ∃ c_, (v142 : Value) = .slice (some adz_v142) y141.length c_) ∧ (b 7 = true → IsS119 w w' g104 t101 t145 t146) ∧ (b 8 = true → (m8_ : Value) = .pointer (some (adz_v142.add (t144).toNat)))) HT_.out HW_.out (by kernel_rfl) (by kernel_rfl) ?_ ?_ ?_
        · exact ⟨.bool false, ⟨0, 0, none⟩, .bool false, by simp only [putSel, Bool.false_eq_true, if_false], (by first | exact HO110.out | exact Kd.R_mono HO110.out (fun _ hk => by first | trivial | (simp_all; done) | grind) | exact Kd.V_mono HO110.out (fun _ hk => by first | trivial | (simp_all; done) | grind) | exact Kd.S_mono HO110.out (fun _ hk => by first | trivial | (simp_all; done) | grind) | exact Kd.Q_mono HO110.out (fun _ hk => by first | trivial | (simp_all; done) | grind) | exact Kd.N_mono HO110.out (fun _ hk => by first | trivial | (simp_all; done) | grind)), (by first | exact HO116.out | exact Kd.R_mono HO116.out (fun _ hk => by first | trivial | (simp_all; done) | grind) | exact Kd.V_mono HO116.out (fun _ hk => by first | trivial | (simp_all; done) | grind) | exact Kd.S_mono HO116.out (fun _ hk => by first | trivial | (simp_all; done) | grind) | exact Kd.Q_mono HO116.out (fun _ hk => by first | trivial | (simp_all; done) | grind) | exact Kd.N_mono HO116.out (fun _ hk => by first | trivial | (simp_all; done) | grind)), fun _ => HI104.out, HB.out, fun h_ => absurd h_ (by decide), fun h_ => absurd h_ (by decide), fun h_ => absurd h_ (by decide), fun h_ => absurd h_ (by decide), fun h_ => absurd h_ (by decide)⟩
        · skip
          clear HB HI104 HO110 HO116
          refine steps_cons ?_ ?_
          · rintro b a w' ⟨v142, adz_v142, m8_, ha, Q_HO110, Q_HO116, Q_HI104, Q_HB, Q_HI104_e4, Q_HO143, Q_HA_HO143, Q_HI104_e7, Q_X8_⟩ hb_ hon hoff
            refine ⟨_, rfl, fun K hK => ?_⟩
            have e29 : a.tmps[29]? = some (.pointer (some ⟨g104, 0, none⟩)) := by rw [ha]; exact (putSel_off rfl).trans rfl
            replace ha := Aside0.mk ha
            have HO110 := Aside0.mk Q_HO110
            have HO116 := Aside0.mk Q_HO116
            have HI104 := Aside0.mk (Q_HI104 hb_)
            have HB := Aside0.mk Q_HB
            refine goes_ Try.func88 (by kernel_rfl) rfl #[.pointer (some ⟨g104, 0, none⟩), .int .i64 300] (by rfl) rfl rfl (by first | (simp only [List.map_toArray, List.map_cons, List.map_nil, Act.eval, Array.getD_eq_getD_getElem?, Option.getD_some, e29]; done) | (simp only [List.map_toArray, List.map_cons, List.map_nil, Act.eval, Array.getD_eq_getD_getElem?, Option.getD_some, e29]; rfl)) ?_
            with_reducible refine (spec_l1Cur_pick.calls g104 t101 t120 t121 300 t138 t139 t140 w _ ?side1 ?side2 A35.out).mono ?_
            (case side1 => repeat (first | (with_reducible first | exact HI104.out | apply IsS119.alloc | apply IsS119.drewN | apply IsS119.drew | apply IsS119.set_1 | apply IsS119.set_2) | exact HI104.out))
            (case side2 => repeat (first | (with_reducible first | exact HB.out | apply below_alloc | apply pw_below_drewN | apply below_drew1 | refine below_set ?_ (IsS119.ge HI104.out)) | exact HB.out))
            rintro e w48 ⟨rfl, hi, hb, hk⟩
            refine ⟨_, rfl, ?_⟩
            have n0_ := Aside0.mk (Kd.R_mono (Kd.R_keep (IsS119.apart (show IsS119 w _ g104 t101 t120 t121 from by repeat (first | (with_reducible first | exact HI104.out | apply IsS119.alloc | apply IsS119.drewN | apply IsS119.drew | apply IsS119.set_1 | apply IsS119.set_2) | exact HI104.out)) (by (with_reducible repeat (first | apply Kd.R_alloc | apply Kd.R_drewN | apply Kd.R_drew)); first | exact HO110.out | exact Kd.R_mono HO110.out (fun _ hk => by first | trivial | (simp_all; done) | grind)) (by decide)) hk (fun _ h => h.2)) (fun _ h => h.1))
            have n1_ := Aside0.mk (Kd.R_mono (Kd.R_keep (IsS119.apart (show IsS119 w _ g104 t101 t120 t121 from by repeat (first | (with_reducible first | exact HI104.out | apply IsS119.alloc | apply IsS119.drewN | apply IsS119.drew | apply IsS119.set_1 | apply IsS119.set_2) | exact HI104.out)) (by (with_reducible repeat (first | apply Kd.R_alloc | apply Kd.R_drewN | apply Kd.R_drew)); first | exact HO116.out | exact Kd.R_mono HO116.out (fun _ hk => by first | trivial | (simp_all; done) | grind)) (by decide)) hk (fun _ h => h.2)) (fun _ h => h.1))
            have n2_ := Aside0.mk (hb)
            have n3_ := Aside0.mk (hi)
            clear HO110
            clear HO116
            clear HB
            clear HI104
            have HO110 := n0_
            have HO116 := n1_
            have HB := n2_
            have HI104 := n3_
            clear n0_ n1_ n2_ n3_
            (try clear hb)
            (try clear hb2)
            (try clear hk)
            (try clear hi)
            refine hK.out _ _ ⟨v142, adz_v142, m8_, (by rw [ha.out]; exact putSel_upk 0 hb_ rfl rfl rfl), (by (with_reducible repeat (first | apply Kd.R_alloc | apply Kd.R_drewN | apply Kd.R_drew)); first | exact HO110.out | exact Kd.R_mono HO110.out (fun _ hk => by first | trivial | (simp_all; done) | grind)), (by (with_reducible repeat (first | apply Kd.R_alloc | apply Kd.R_drewN | apply Kd.R_drew)); first | exact HO116.out | exact Kd.R_mono HO116.out (fun _ hk => by first | trivial | (simp_all; done) | grind)), fun h0_ => absurd ((up_self b 4).symm.trans h0_) (by decide), (by repeat (first | (with_reducible first | exact HB.out | apply below_alloc | apply pw_below_drewN | apply below_drew1 | refine below_set ?_ (IsS119.ge HI104.out)) | exact HB.out)), fun _ _ => (by repeat (first | (with_reducible first | exact HI104.out | apply IsS119.alloc | apply IsS119.drewN | apply IsS119.drew | apply IsS119.set_1 | apply IsS119.set_2) | exact HI104.out)), fun h0_ => absurd ((hoff 5 (by kernel_rfl)).symm.trans h0_) (by decide), fun h0_ => absurd ((hoff 5 (by kernel_rfl)).symm.trans h0_) (by decide), fun h0_ => absurd ((hoff 7 (by kernel_rfl)).symm.trans h0_) (by decide), fun h0_ => absurd ((hoff 8 (by kernel_rfl)).symm.trans h0_) (by decide)⟩
          refine steps_cons ?_ ?_
          · rintro b a w' ⟨v142, adz_v142, m8_, ha, Q_HO110, Q_HO116, Q_HI104, Q_HB, Q_HI104_e4, Q_HO143, Q_HA_HO143, Q_HI104_e7, Q_X8_⟩ hb_ hon hoff
            refine ⟨_, rfl, fun K hK => ?_⟩
            have e30 : a.tmps[30]? = some (.int .i64 t138) := by rw [ha]; exact putSel_on (e := (4, 30, .int .i64 t138)) 0 rfl rfl (hon 4 (by kernel_rfl)) rfl
            replace ha := Aside0.mk ha
            have HO110 := Aside0.mk Q_HO110
            have HO116 := Aside0.mk Q_HO116
            have HB := Aside0.mk Q_HB
            refine Kd.R_lit_step (Kd.int .i64) _ 3 ?hg (N := 31) ?hd (xs := ([t138, (-1), 1000000000, 1000000001] : List Int)) (inner := [.int .i64 t138, .int .i64 (-1), .int .i64 1000000000, .int .i64 1000000001]) (ok := fun _ => True) (okp := fun _ => True) ?hr ?hp (fun _ hk => by first | exact hk | trivial | (simp_all; done) | grind) trivial (Below.refl _ _) (Nat.le_refl _) (by simp) ?_; (case hd => rfl); (case hg => rfl); (case hr => first | (go_simp; done) | (go_simp; rfl)); (case hp => exact (Reps.one (show Kd.M (Kd.int .i64) _ _ _ t138 [.int .i64 t138] from rfl) (Reps.one (show Kd.M (Kd.int .i64) _ _ _ (-1) [.int .i64 (-1)] from rfl) (Reps.one (show Kd.M (Kd.int .i64) _ _ _ 1000000000 [.int .i64 1000000000] from rfl) (Reps.one (show Kd.M (Kd.int .i64) _ _ _ 1000000001 [.int .i64 1000000001] from rfl) (Reps.none _ _))))))
            intro v142 w50 ho51 hb hg_ hnew_
            clear hg_ hnew_
            (first | rw [← Ny141.out] at ho51 | (simp only [Int.reduceToNat] at ho51; rw [← Ny141.out] at ho51))
            have n0_ := Aside0.mk (Kd.R_below (by (with_reducible repeat (first | apply Kd.R_alloc | apply Kd.R_drewN | apply Kd.R_drew)); first | exact HO110.out | exact Kd.R_mono HO110.out (fun _ hk => by first | trivial | (simp_all; done) | grind)) hb)
            have n1_ := Aside0.mk (Kd.R_below (by (with_reducible repeat (first | apply Kd.R_alloc | apply Kd.R_drewN | apply Kd.R_drew)); first | exact HO116.out | exact Kd.R_mono HO116.out (fun _ hk => by first | trivial | (simp_all; done) | grind)) hb)
            have n2_ := Aside0.mk (Kd.R_lower ho51 (below_size (by repeat (first | (with_reducible first | exact HB.out | apply below_alloc | apply pw_below_drewN | apply below_drew1) | exact HB.out))))
            have n4_ := Aside0.mk (below_step (by repeat (first | (with_reducible first | exact HB.out | apply below_alloc | apply pw_below_drewN | apply below_drew1) | exact HB.out)) hb)
            have z_HI104_e4 := fun (h0_ : b 4 = true) (h1_ : b 7 = false) => (show IsS119 w w50 g104 t101 t139 t140 from by first | exact (IsS119.below (by repeat (first | (with_reducible first | exact (Q_HI104_e4 h0_ h1_) | apply IsS119.alloc | apply IsS119.drewN | apply IsS119.drew | apply IsS119.set_1 | apply IsS119.set_2) | exact (Q_HI104_e4 h0_ h1_))) hb))
            have z_HI104_e7 := fun (h0_ : b 7 = true) => (show IsS119 w w50 g104 t101 t145 t146 from by first | exact (IsS119.below (by repeat (first | (with_reducible first | exact (Q_HI104_e7 h0_) | apply IsS119.alloc | apply IsS119.drewN | apply IsS119.drew | apply IsS119.set_1 | apply IsS119.set_2) | exact (Q_HI104_e7 h0_))) hb))
            clear HO110
            clear HO116
            clear HB
            have HO110 := n0_
            have HO116 := n1_
            have HO143 := n2_
            have HB := n4_
            clear n0_ n1_ n2_ n4_
            clear hb ho51
            obtain ⟨Ao52, co52, eo52⟩ := Kd.R_slice HO143.out
            subst eo52
            obtain ⟨ado52, fo52, _⟩ := Kd.at_int (Kd.R_reads' HO143.out).2.2 0 (by decide) (by rw [Ny141.out]; simp)
            cases fo52
            refine hK.out _ _ ⟨.slice (some ado52) y141.length co52, ado52, m8_, (by rw [ha.out]; exact putSel_upk 1 hb_ rfl rfl rfl), (by (with_reducible repeat (first | apply Kd.R_alloc | apply Kd.R_drewN | apply Kd.R_drew)); first | exact HO110.out | exact Kd.R_mono HO110.out (fun _ hk => by first | trivial | (simp_all; done) | grind)), (by (with_reducible repeat (first | apply Kd.R_alloc | apply Kd.R_drewN | apply Kd.R_drew)); first | exact HO116.out | exact Kd.R_mono HO116.out (fun _ hk => by first | trivial | (simp_all; done) | grind)), fun h0_ => absurd ((hon 4 (by kernel_rfl)).symm.trans h0_) (by decide), (by repeat (first | (with_reducible first | exact HB.out | apply below_alloc | apply pw_below_drewN | apply below_drew1) | exact HB.out)), z_HI104_e4, fun _ => (by (with_reducible repeat (first | apply Kd.R_alloc | apply Kd.R_drewN | apply Kd.R_drew)); first | exact HO143.out | exact Kd.R_mono HO143.out (fun _ hk => by first | trivial | (simp_all; done) | grind)), fun _ => ⟨_, rfl⟩, z_HI104_e7, fun h0_ => absurd ((hoff 8 (by kernel_rfl)).symm.trans h0_) (by decide)⟩
          refine steps_cons ?_ ?_
          · rintro b a w' ⟨v142, adz_v142, m8_, ha, Q_HO110, Q_HO116, Q_HI104, Q_HB, Q_HI104_e4, Q_HO143, Q_HA_HO143, Q_HI104_e7, Q_X8_⟩ hb_ hon hoff
            refine ⟨_, rfl, fun K hK => ?_⟩
            have e32 : a.tmps[32]? = some (.pointer (some ⟨g104, 0, none⟩)) := by rw [ha]; exact (putSel_off rfl).trans rfl
            replace ha := Aside0.mk ha
            have HO110 := Aside0.mk Q_HO110
            have HO116 := Aside0.mk Q_HO116
            have HB := Aside0.mk Q_HB
            have HI104 := Aside0.mk (Q_HI104_e4 (hon 4 (by kernel_rfl)) hb_)
            refine goes_ Try.func95 (by kernel_rfl) rfl #[.pointer (some ⟨g104, 0, none⟩), .int .i64 4] (by rfl) rfl rfl (by first | (simp only [List.map_toArray, List.map_cons, List.map_nil, Act.eval, Array.getD_eq_getD_getElem?, Option.getD_some, e32]; done) | (simp only [List.map_toArray, List.map_cons, List.map_nil, Act.eval, Array.getD_eq_getD_getElem?, Option.getD_some, e32]; rfl)) ?_
            with_reducible refine (spec_l1Cur_rare.calls g104 t101 t139 t140 4 t144 t145 t146 w _ ?side1 ?side2 A36.out).mono ?_
            (case side1 => repeat (first | (with_reducible first | exact HI104.out | apply IsS119.alloc | apply IsS119.drewN | apply IsS119.drew | apply IsS119.set_1 | apply IsS119.set_2) | exact HI104.out))
            (case side2 => repeat (first | (with_reducible first | exact HB.out | apply below_alloc | apply pw_below_drewN | apply below_drew1 | refine below_set ?_ (IsS119.ge HI104.out)) | exact HB.out))
            rintro e w50 ⟨rfl, hi, hb, hk⟩
            refine ⟨_, rfl, ?_⟩
            have n0_ := Aside0.mk (Kd.R_mono (Kd.R_keep (IsS119.apart (show IsS119 w _ g104 t101 t139 t140 from by repeat (first | (with_reducible first | exact HI104.out | apply IsS119.alloc | apply IsS119.drewN | apply IsS119.drew | apply IsS119.set_1 | apply IsS119.set_2) | exact HI104.out)) (by (with_reducible repeat (first | apply Kd.R_alloc | apply Kd.R_drewN | apply Kd.R_drew)); first | exact HO110.out | exact Kd.R_mono HO110.out (fun _ hk => by first | trivial | (simp_all; done) | grind)) (by decide)) hk (fun _ h => h.2)) (fun _ h => h.1))
            have n1_ := Aside0.mk (Kd.R_mono (Kd.R_keep (IsS119.apart (show IsS119 w _ g104 t101 t139 t140 from by repeat (first | (with_reducible first | exact HI104.out | apply IsS119.alloc | apply IsS119.drewN | apply IsS119.drew | apply IsS119.set_1 | apply IsS119.set_2) | exact HI104.out)) (by (with_reducible repeat (first | apply Kd.R_alloc | apply Kd.R_drewN | apply Kd.R_drew)); first | exact HO116.out | exact Kd.R_mono HO116.out (fun _ hk => by first | trivial | (simp_all; done) | grind)) (by decide)) hk (fun _ h => h.2)) (fun _ h => h.1))
            have n2_ := Aside0.mk (hb)
            have n3_ := Aside0.mk (hi)
            have z_HO143 := fun (h0_ : b 5 = true) => (show Kd.R (Kd.int .i64) 3 w50 w.heap.size (fun _ => True) v142 y141 from by first | exact (Kd.R_mono (Kd.R_keep (IsS119.apart (show IsS119 w _ g104 t101 t139 t140 from by repeat (first | (with_reducible first | exact HI104.out | apply IsS119.alloc | apply IsS119.drewN | apply IsS119.drew | apply IsS119.set_1 | apply IsS119.set_2) | exact HI104.out)) (by (with_reducible repeat (first | apply Kd.R_alloc | apply Kd.R_drewN | apply Kd.R_drew)); exact (Q_HO143 h0_)) (by decide)) hk (fun _ h => h.2)) (fun _ h => h.1)) | exact Kd.R_mono (Kd.R_mono (Kd.R_keep (IsS119.apart (show IsS119 w _ g104 t101 t139 t140 from by repeat (first | (with_reducible first | exact HI104.out | apply IsS119.alloc | apply IsS119.drewN | apply IsS119.drew | apply IsS119.set_1 | apply IsS119.set_2) | exact HI104.out)) (by (with_reducible repeat (first | apply Kd.R_alloc | apply Kd.R_drewN | apply Kd.R_drew)); exact (Q_HO143 h0_)) (by decide)) hk (fun _ h => h.2)) (fun _ h => h.1)) (fun _ h_ => by first | trivial | exact h_ | exact h_.1))
            clear HO110
            clear HO116
            clear HB
            clear HI104
            have HO110 := n0_
            have HO116 := n1_
            have HB := n2_
            have HI104 := n3_
            clear n0_ n1_ n2_ n3_
            (try clear hb)
            (try clear hb2)
            (try clear hk)
            (try clear hi)
            refine hK.out _ _ ⟨v142, adz_v142, m8_, (by rw [ha.out]; exact putSel_upk 2 hb_ rfl rfl rfl), (by (with_reducible repeat (first | apply Kd.R_alloc | apply Kd.R_drewN | apply Kd.R_drew)); first | exact HO110.out | exact Kd.R_mono HO110.out (fun _ hk => by first | trivial | (simp_all; done) | grind)), (by (with_reducible repeat (first | apply Kd.R_alloc | apply Kd.R_drewN | apply Kd.R_drew)); first | exact HO116.out | exact Kd.R_mono HO116.out (fun _ hk => by first | trivial | (simp_all; done) | grind)), fun h0_ => absurd ((hon 4 (by kernel_rfl)).symm.trans h0_) (by decide), (by repeat (first | (with_reducible first | exact HB.out | apply below_alloc | apply pw_below_drewN | apply below_drew1 | refine below_set ?_ (IsS119.ge HI104.out)) | exact HB.out)), fun _ h1_ => absurd ((up_self b 7).symm.trans h1_) (by decide), z_HO143, Q_HA_HO143, fun _ => (by repeat (first | (with_reducible first | exact HI104.out | apply IsS119.alloc | apply IsS119.drewN | apply IsS119.drew | apply IsS119.set_1 | apply IsS119.set_2) | exact HI104.out)), fun h0_ => absurd ((hoff 8 (by kernel_rfl)).symm.trans h0_) (by decide)⟩
          refine steps_cons ?_ ?_
          · rintro b a w' ⟨v142, adz_v142, m8_, ha, Q_HO110, Q_HO116, Q_HI104, Q_HB, Q_HI104_e4, Q_HO143, Q_HA_HO143, Q_HI104_e7, Q_X8_⟩ hb_ hon hoff
            refine ⟨_, rfl, fun K hK => ?_⟩
            have e31 : a.tmps[31]? = some (v142) := by rw [ha]; exact putSel_on (e := (5, 31, v142)) 1 rfl rfl (hon 5 (by kernel_rfl)) rfl
            have e33 : a.tmps[33]? = some (.int .i64 t144) := by rw [ha]; exact putSel_on (e := (7, 33, .int .i64 t144)) 2 rfl rfl (hon 7 (by kernel_rfl)) rfl
            replace ha := Aside0.mk ha
            have HO110 := Aside0.mk Q_HO110
            have HO116 := Aside0.mk Q_HO116
            have HB := Aside0.mk Q_HB
            have HO143 := Aside0.mk (Q_HO143 (hon 5 (by kernel_rfl)))
            have HA_HO143 := Aside0.mk (Q_HA_HO143 (hon 5 (by kernel_rfl)))
            have HI104 := Aside0.mk (Q_HI104_e7 (hon 7 (by kernel_rfl)))
            obtain ⟨c_, hv_⟩ := HA_HO143.out
            rw [hv_] at e31
            refine value_ (w1 := w') (v := .pointer (some (adz_v142.add (t144).toNat))) (by rfl) rfl ?_ ?_
            · go_simp
              (try simp only [i64_w])
              try rfl
            refine hK.out _ _ ⟨v142, adz_v142, (.pointer (some (adz_v142.add (t144).toNat))), (by rw [ha.out]; exact putSel_upk 3 hb_ rfl rfl rfl), Q_HO110, Q_HO116, fun h0_ => absurd ((hon 4 (by kernel_rfl)).symm.trans h0_) (by decide), Q_HB, fun _ h1_ => absurd ((hon 7 (by kernel_rfl)).symm.trans h1_) (by decide), Q_HO143, Q_HA_HO143, Q_HI104_e7, fun _ => rfl⟩
          refine steps_cons ?_ ?_
          · rintro b a w' ⟨v142, adz_v142, m8_, ha, Q_HO110, Q_HO116, Q_HI104, Q_HB, Q_HI104_e4, Q_HO143, Q_HA_HO143, Q_HI104_e7, Q_X8_⟩ hb_ hon hoff
            refine ⟨_, rfl, fun K hK => ?_⟩
            have e34 : a.tmps[34]? = some (m8_) := by rw [ha]; exact putSel_on (e := (8, 34, m8_)) 3 rfl rfl (hon 8 (by kernel_rfl)) rfl
            rw [Q_X8_ (hon 8 (by kernel_rfl))] at e34
            replace ha := Aside0.mk ha
            have HO110 := Aside0.mk Q_HO110
            have HO116 := Aside0.mk Q_HO116
            have HB := Aside0.mk Q_HB
            have HO143 := Aside0.mk (Q_HO143 (hon 5 (by kernel_rfl)))
            have HA_HO143 := Aside0.mk (Q_HA_HO143 (hon 5 (by kernel_rfl)))
            have HI104 := Aside0.mk (Q_HI104_e7 (hon 7 (by kernel_rfl)))
            obtain ⟨c_, hv_⟩ := HA_HO143.out
            have hF_ := HO143.out
            rw [hv_] at hF_
            obtain ⟨ad_, ea_, hx_⟩ := Kd.at_int (Kd.R_reads' hF_).2.2 t144 (of_eq_true pi147) (of_eq_true qi147)
            cases ea_
            refine value_ (w1 := w') (v := .int .i64 (rd y141 t144)) (by rfl) rfl ?_ ?_
            · go_simp
              (try simp only [i64_w])
              try rfl
            refine hK.out _ _ ⟨v142, adz_v142, m8_, (by rw [ha.out]; exact putSel_upk 4 hb_ rfl rfl rfl), Q_HO110, Q_HO116, fun h0_ => absurd ((hon 4 (by kernel_rfl)).symm.trans h0_) (by decide), Q_HB, fun _ h1_ => absurd ((hon 7 (by kernel_rfl)).symm.trans h1_) (by decide), Q_HO143, Q_HA_HO143, Q_HI104_e7, Q_X8_⟩
          refine steps_cons ?_ ?_
          · rintro b a w' ⟨v142, adz_v142, m8_, ha, Q_HO110, Q_HO116, Q_HI104, Q_HB, Q_HI104_e4, Q_HO143, Q_HA_HO143, Q_HI104_e7, Q_X8_⟩ hb_ hon hoff
            refine ⟨_, rfl, fun K hK => ?_⟩
            have e26 : a.tmps[26]? = some (.int .i64 t105) := by rw [ha]; exact (putSel_off rfl).trans rfl
            replace ha := Aside0.mk ha
            have HO110 := Aside0.mk Q_HO110
            have HO116 := Aside0.mk Q_HO116
            have HB := Aside0.mk Q_HB
            have HI104 := Aside0.mk (Q_HI104_e7 (hon 7 (by kernel_rfl)))
            refine value_ (w1 := w') (v := .int .i64 t105) (by rfl) rfl ?_ ?_
            · go_simp
              (try simp only [i64_w])
              try rfl
            refine hK.out _ _ ⟨v142, adz_v142, m8_, (by rw [ha.out]; exact putSel_upk 5 hb_ rfl rfl rfl), Q_HO110, Q_HO116, fun h0_ => absurd ((hon 4 (by kernel_rfl)).symm.trans h0_) (by decide), Q_HB, fun _ h1_ => absurd ((hon 7 (by kernel_rfl)).symm.trans h1_) (by decide), Q_HO143, Q_HA_HO143, Q_HI104_e7, Q_X8_⟩
          refine steps_cons ?_ ?_
          · rintro b a w' ⟨v142, adz_v142, m8_, ha, Q_HO110, Q_HO116, Q_HI104, Q_HB, Q_HI104_e4, Q_HO143, Q_HA_HO143, Q_HI104_e7, Q_X8_⟩ hb_ hon hoff
            refine ⟨_, rfl, fun K hK => ?_⟩
            have e27 : a.tmps[27]? = some (.string t111) := by rw [ha]; exact (putSel_off rfl).trans rfl
            replace ha := Aside0.mk ha
            have HO110 := Aside0.mk Q_HO110
            have HO116 := Aside0.mk Q_HO116
            have HB := Aside0.mk Q_HB
            have HI104 := Aside0.mk (Q_HI104_e7 (hon 7 (by kernel_rfl)))
            refine value_ (w1 := w') (v := .string t111) (by rfl) rfl ?_ ?_
            · go_simp
              (try simp only [i64_w])
              try rfl
            refine hK.out _ _ ⟨v142, adz_v142, m8_, (by rw [ha.out]; exact putSel_upk 6 hb_ rfl rfl rfl), Q_HO110, Q_HO116, fun h0_ => absurd ((hon 4 (by kernel_rfl)).symm.trans h0_) (by decide), Q_HB, fun _ h1_ => absurd ((hon 7 (by kernel_rfl)).symm.trans h1_) (by decide), Q_HO143, Q_HA_HO143, Q_HI104_e7, Q_X8_⟩
          refine steps_cons ?_ ?_
          · rintro b a w' ⟨v142, adz_v142, m8_, ha, Q_HO110, Q_HO116, Q_HI104, Q_HB, Q_HI104_e4, Q_HO143, Q_HA_HO143, Q_HI104_e7, Q_X8_⟩ hb_ hon hoff
            refine ⟨_, rfl, fun K hK => ?_⟩
            have e28 : a.tmps[28]? = some (v115) := by rw [ha]; exact (putSel_off rfl).trans rfl
            replace ha := Aside0.mk ha
            have HO110 := Aside0.mk Q_HO110
            have HO116 := Aside0.mk Q_HO116
            have HB := Aside0.mk Q_HB
            have HI104 := Aside0.mk (Q_HI104_e7 (hon 7 (by kernel_rfl)))
            refine value_ (w1 := w') (v := v115) (by rfl) rfl ?_ ?_
            · go_simp
              (try simp only [i64_w])
              try rfl
            refine hK.out _ _ ⟨v142, adz_v142, m8_, (by rw [ha.out]; exact putSel_upk 7 hb_ rfl rfl rfl), Q_HO110, Q_HO116, fun h0_ => absurd ((hon 4 (by kernel_rfl)).symm.trans h0_) (by decide), Q_HB, fun _ h1_ => absurd ((hon 7 (by kernel_rfl)).symm.trans h1_) (by decide), Q_HO143, Q_HA_HO143, Q_HI104_e7, Q_X8_⟩
          refine steps_cons ?_ ?_
          · rintro b a w' ⟨v142, adz_v142, m8_, ha, Q_HO110, Q_HO116, Q_HI104, Q_HB, Q_HI104_e4, Q_HO143, Q_HA_HO143, Q_HI104_e7, Q_X8_⟩ hb_ hon hoff
            refine ⟨_, rfl, fun K hK => ?_⟩
            have e35 : a.tmps[35]? = some (.int .i64 (rd y141 t144)) := by rw [ha]; exact putSel_on (e := (9, 35, .int .i64 (rd y141 t144))) 4 rfl rfl (hon 9 (by kernel_rfl)) rfl
            replace ha := Aside0.mk ha
            have HO110 := Aside0.mk Q_HO110
            have HO116 := Aside0.mk Q_HO116
            have HB := Aside0.mk Q_HB
            have HO143 := Aside0.mk (Q_HO143 (hon 5 (by kernel_rfl)))
            have HA_HO143 := Aside0.mk (Q_HA_HO143 (hon 5 (by kernel_rfl)))
            have HI104 := Aside0.mk (Q_HI104_e7 (hon 7 (by kernel_rfl)))
            refine value_ (w1 := w') (v := .int .i64 (rd y141 t144)) (by rfl) rfl ?_ ?_
            · go_simp
              (try simp only [i64_w])
              try rfl
            refine hK.out _ _ ⟨v142, adz_v142, m8_, (by rw [ha.out]; exact putSel_upk 8 hb_ rfl rfl rfl), Q_HO110, Q_HO116, fun h0_ => absurd ((hon 4 (by kernel_rfl)).symm.trans h0_) (by decide), Q_HB, fun _ h1_ => absurd ((hon 7 (by kernel_rfl)).symm.trans h1_) (by decide), Q_HO143, Q_HA_HO143, Q_HI104_e7, Q_X8_⟩
          exact steps_nil
        rintro b a w53 hall ⟨v142, adz_v142, m8_, ha, Q_HO110, Q_HO116, Q_HI104, Q_HB, Q_HI104_e4, Q_HO143, Q_HA_HO143, Q_HI104_e7, Q_X8_⟩
        clear HB HI104 HO110 HO116
        have hb4_ := hall 4 (by kernel_rfl)
        have hb5_ := hall 5 (by kernel_rfl)
        have hb7_ := hall 7 (by kernel_rfl)
        have hb8_ := hall 8 (by kernel_rfl)
        have hb9_ := hall 9 (by kernel_rfl)
        have hb10_ := hall 10 (by kernel_rfl)
        have hb11_ := hall 11 (by kernel_rfl)
        have hb12_ := hall 12 (by kernel_rfl)
        have hb13_ := hall 13 (by kernel_rfl)
        subst ha
        obtain rfl := Q_X8_ hb8_
        simp only [putSel, hb4_, hb5_, hb7_, hb8_, hb9_, hb10_, hb11_, hb12_, hb13_, if_true, Act.put, List.setIfInBounds_toArray, List.set_cons_zero, List.set_cons_succ]
        have HO110 := Aside0.mk Q_HO110
        clear Q_HO110
        have HO116 := Aside0.mk Q_HO116
        clear Q_HO116
        clear Q_HI104
        have HB := Aside0.mk Q_HB
        clear Q_HB
        clear Q_HI104_e4
        have HO143 := Aside0.mk (Q_HO143 hb5_)
        clear Q_HO143
        have HA_HO143 := Aside0.mk (Q_HA_HO143 hb5_)
        clear Q_HA_HO143
        have HI104 := Aside0.mk (Q_HI104_e7 hb7_)
        clear Q_HI104_e7
        clear hall hb4_ hb5_ hb7_ hb8_ hb9_ hb10_ hb11_ hb12_ hb13_
        obtain ⟨co54, eo54⟩ := HA_HO143.out
        clear HA_HO143
        subst eo54
        try go_wp2
        refine bodyPost_ret (results_list (rs := [.tmp 2, .tmp 3, .tmp 4, .tmp 5]) rfl (by simp) (.tmp (.tmp (.tmp (.tmp .nil))))) rfl ?_
        exact ⟨_, by first | rfl | (simp [errW_none, errW_some] <;> rfl) | (simp [*, errW_none, errW_some] <;> rfl), by (with_reducible repeat (first | apply Kd.R_alloc | apply Kd.R_drewN | apply Kd.R_drew)); exact HO116.out, by repeat (first | (with_reducible first | exact HB.out | apply below_alloc | apply pw_below_drewN | apply below_drew1 | refine below_set ?_ (IsS119.ge HI104.out)) | exact HB.out)⟩
      · rw [if_neg c38] at H
        exact absurd H (by simp)
    · rw [if_neg c37] at H
      exact absurd H (by simp)

end Go.Proofs.Ytgolcojhnklfdaa.Pr
