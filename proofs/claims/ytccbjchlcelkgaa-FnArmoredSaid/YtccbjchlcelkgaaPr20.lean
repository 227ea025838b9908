-- Written by mkprint.py (a program of this repo, which drives the print.py of the kit): Lean checks it.
import Derived.Test.YtccbjchlcelkgaaPr0x
import Derived.Test.YtccbjchlcelkgaaHbytes
import Derived.Test.YtccbjchlcelkgaaPr62
import Derived.Test.YtccbjchlcelkgaaPr64
import Derived.Test.YtccbjchlcelkgaaPr65
import Derived.Test.YtccbjchlcelkgaaPrcur
namespace Go.Proofs.Ytccbjchlcelkgaa.Pr
open Go.RowKit Go.Proofs.YtccbjchlcelkgaaW.PrintWords Go.Proofs.YtccbjchlcelkgaaW.PrintLast Go.Proofs.YtccbjchlcelkgaaW.PrintMore
attribute [local go_sem] max2_int min2_int max_two min_two max_three min_three max_four min_four   -- for this text's walks alone
set_option linter.unusedVariables false
set_option linter.unusedSimpArgs false

/-! ### spec_DrawUnarmor: function 20 -/
def spec_DrawUnarmor.f (k : Nat) (l0 : List Int) : Option (ByteArray) := (newCur.f l0 0 0).bind fun bt101 => ((spec_l1Cur_bytes.f k bt101.1 bt101.2.1 bt101.2.2 30).bind fun bt105 => ((spec_l2Armor.f k bt105.1).bind fun t110 => ((spec_l1Cur_spoilt.f k bt101.1 bt105.2.1 bt105.2.2 t110 (⟨#[48, 97, 118, 119, 49, 117, 90, 45]⟩ : ByteArray)).bind fun bt111 => (some bt111.1))))
theorem spec_DrawUnarmor.mono : ∀ a0 k, LeO (spec_DrawUnarmor.f k a0) (spec_DrawUnarmor.f (k + 1) a0) := by
  intro a0 k
  unfold spec_DrawUnarmor.f
  repeat' first
      | (with_reducible exact spec_l1Cur_bytes.mono _ _ _ _ _)
      | (with_reducible exact spec_l1Cur_spoilt.mono _ _ _ _ _ _)
      | (with_reducible exact spec_l2Armor.mono _ _)
      | (with_reducible exact LeO.refl _)
      | (with_reducible exact LeO.none _)
      | (with_reducible refine LeO.ite ?_ ?_)
      | (with_reducible refine LeO.bind ?_ (fun _ => ?_))
      | exact spec_l1Cur_bytes.mono _ _ _ _ _
      | exact spec_l1Cur_spoilt.mono _ _ _ _ _ _
      | exact spec_l2Armor.mono _ _
      | exact LeO.none _
      | refine LeO.ite ?_ ?_
      | refine LeO.bind ?_ (fun _ => ?_)
set_option maxHeartbeats 8000000 in
set_option maxRecDepth 100000 in
theorem spec_DrawUnarmor.calls (k : Nat) (A0 : Option Addr) (c0 : Nat) (l0 : List Int) (r : ByteArray) (w : World) (hr0 : Kd.C (Kd.int .u8) w A0 l0.length l0) (hc0 : l0.length ≤ c0) (h : spec_DrawUnarmor.f k l0 = some r) :
    Calls Try.prog 20 #[.slice A0 l0.length c0] w fun e w' => e = .returned (.string r) ∧ Below w.heap.size w w' := by
  have hu82 := Try.underlying82
  have HR0 := Aside0.mk hr0
  have HC0 := Aside0.mk hc0
  clear hr0 hc0
  have HB := Aside0.mk (Below.refl w.heap.size w)
  have H : ((newCur.f l0 0 0).bind fun bt101 => ((spec_l1Cur_bytes.f k bt101.1 bt101.2.1 bt101.2.2 30).bind fun bt105 => ((spec_l2Armor.f k bt105.1).bind fun t110 => ((spec_l1Cur_spoilt.f k bt101.1 bt105.2.1 bt105.2.2 t110 (⟨#[48, 97, 118, 119, 49, 117, 90, 45]⟩ : ByteArray)).bind fun bt111 => (some bt111.1))))) = some r := h
  clear h
  replace H := Option.bind_eq_some_iff.mp H
  obtain ⟨⟨t101, t102, t103⟩, A20, H⟩ := H
  replace H : ((spec_l1Cur_bytes.f k t101 t102 t103 30).bind fun bt105 => ((spec_l2Armor.f k bt105.1).bind fun t110 => ((spec_l1Cur_spoilt.f k t101 bt105.2.1 bt105.2.2 t110 (⟨#[48, 97, 118, 119, 49, 117, 90, 45]⟩ : ByteArray)).bind fun bt111 => (some bt111.1)))) = some r := H
  have A2 := Aside0.mk A20
  clear A20
  replace H := Option.bind_eq_some_iff.mp H
  obtain ⟨⟨t105, t108, t109⟩, A30, H⟩ := H
  replace H : ((spec_l2Armor.f k t105).bind fun t110 => ((spec_l1Cur_spoilt.f k t101 t108 t109 t110 (⟨#[48, 97, 118, 119, 49, 117, 90, 45]⟩ : ByteArray)).bind fun bt111 => (some bt111.1))) = some r := H
  have A3 := Aside0.mk A30
  clear A30
  replace H := Option.bind_eq_some_iff.mp H
  obtain ⟨t110, A40, H⟩ := H
  replace H : ((spec_l1Cur_spoilt.f k t101 t108 t109 t110 (⟨#[48, 97, 118, 119, 49, 117, 90, 45]⟩ : ByteArray)).bind fun bt111 => (some bt111.1)) = some r := H
  have A4 := Aside0.mk A40
  clear A40
  replace H := Option.bind_eq_some_iff.mp H
  obtain ⟨⟨t111, t112, t113⟩, A50, H⟩ := H
  replace H : (some t111) = some r := H
  have A5 := Aside0.mk A50
  clear A50
  obtain rfl := Option.some.inj H
  go_enter Try.func20, Try.ntmps20
  go_wp2_with (first | ((with_reducible refine gate_box (t := 82) rfl ?_); refine boxGoesL_ (some 6) rfl rfl (t := 82) (cs := #[.slice A0 l0.length c0, .int .i64 0, .int .u64 0]) (by first | (go_simp; done) | (go_simp; rfl)) ?_; (with_reducible refine (newCur.calls _ _ l0 0 0 t101 t102 t103 w _ ?side1 ?side2 ?side3 A2.out).mono ?_); (case side1 => repeat (first | (with_reducible first | exact HB.out | apply below_alloc | apply pw_below_drewN | apply below_drew1) | exact HB.out)); (case side2 => exact HR0.out); (case side3 => exact HC0.out); rintro e w6 ⟨g104, rfl, hi, hb, hb2⟩; refine ⟨_, rfl, ?_⟩; have n0_ := Aside0.mk (hb); have n1_ := Aside0.mk (hi); clear HB; have HB := n0_; have HI104 := n1_; clear n0_ n1_; (try clear hb); (try clear hb2); (try clear hk); (try clear hi)) | ((with_reducible refine gate_callee (f := 65) rfl ?_); refine goesL_ (some 9) rfl rfl Try.func65 (by kernel_rfl) rfl #[.pointer (some ⟨g104, 0, none⟩), .int .i64 30] rfl (by (try simp only [List.map_toArray, List.map_cons, List.map_nil]); first | done | rfl | (simp only [List.length_drop, List.length_take]; rfl)) ?_; (with_reducible refine (spec_l1Cur_bytes.calls k g104 t101 t102 t103 30 t105 t108 t109 w _ ?side1 ?side2 A3.out).mono ?_); (case side1 => repeat (first | (with_reducible first | exact HI104.out | apply IsS82.alloc | apply IsS82.drewN | apply IsS82.drew | apply IsS82.set_1 | apply IsS82.set_2) | exact HI104.out)); (case side2 => repeat (first | (with_reducible first | exact HB.out | apply below_alloc | apply pw_below_drewN | apply below_drew1 | refine below_set ?_ (IsS82.ge HI104.out)) | exact HB.out)); rintro e w7 ⟨v106, rfl, ho0, hi, hb, hk⟩; refine ⟨_, rfl, ?_⟩; have n0_ := Aside0.mk (Kd.R_lower ho0 (below_size (by repeat (first | (with_reducible first | exact HB.out | apply below_alloc | apply pw_below_drewN | apply below_drew1 | refine below_set ?_ (IsS82.ge HI104.out)) | exact HB.out)))); have n1_ := Aside0.mk (hb); have n2_ := Aside0.mk (hi); clear HB; clear HI104; have HO107 := n0_; have HB := n1_; have HI104 := n2_; clear n0_ n1_ n2_; (try clear hb); (try clear hb2); (try clear hk); (try clear hi); (try clear ho0); obtain ⟨Ao8, co8, eo8⟩ := Kd.R_slice HO107.out; subst eo8) | ((with_reducible refine gate_callee (f := 62) rfl ?_); refine goesL_ (some 10) rfl rfl Try.func62 (by kernel_rfl) rfl #[.slice Ao8 t105.length co8] rfl (by (try simp only [List.map_toArray, List.map_cons, List.map_nil]); first | done | rfl | (simp only [List.length_drop, List.length_take]; rfl)) ?_; (with_reducible refine (spec_l2Armor.calls k _ _ t105 t110 _ ?side1 ?side2 A4.out).mono ?_); (case side1 => repeat (first | exact (Kd.R_reads' HO107.out).2.2 | (with_reducible refine Kd.C_alloc ?_ _) | (with_reducible refine Kd.C_drewN ?_ _) | (with_reducible refine Kd.C_drew ?_))); (case side2 => exact (Kd.R_reads' HO107.out).2.1); rintro e w9 ⟨rfl, hb⟩; refine ⟨_, rfl, ?_⟩; have n0_ := Aside0.mk (Kd.R_below (by (with_reducible repeat (first | apply Kd.R_alloc | apply Kd.R_drewN | apply Kd.R_drew)); exact HO107.out) hb); have n1_ := Aside0.mk (IsS82.below (by repeat (first | (with_reducible first | exact HI104.out | apply IsS82.alloc | apply IsS82.drewN | apply IsS82.drew | apply IsS82.set_1 | apply IsS82.set_2) | exact HI104.out)) hb); have n2_ := Aside0.mk (below_step (by repeat (first | (with_reducible first | exact HB.out | apply below_alloc | apply pw_below_drewN | apply below_drew1 | refine below_set ?_ (IsS82.ge HI104.out)) | exact HB.out)) hb); clear HO107; clear HI104; clear HB; have HO107 := n0_; have HI104 := n1_; have HB := n2_; clear n0_ n1_ n2_; (try clear hb); (try clear hb2); (try clear hk); (try clear hi)) | ((with_reducible refine gate_callee (f := 64) rfl ?_); refine goesL_ (some 11) rfl rfl Try.func64 (by kernel_rfl) rfl #[.pointer (some ⟨g104, 0, none⟩), .string t110, .string (⟨#[48, 97, 118, 119, 49, 117, 90, 45]⟩ : ByteArray)] rfl (by (try simp only [List.map_toArray, List.map_cons, List.map_nil]); first | done | rfl | (simp only [List.length_drop, List.length_take]; rfl)) ?_; (with_reducible refine (spec_l1Cur_spoilt.calls k g104 t101 t108 t109 t110 (⟨#[48, 97, 118, 119, 49, 117, 90, 45]⟩ : ByteArray) t111 t112 t113 w _ ?side1 ?side2 A5.out).mono ?_); (case side1 => repeat (first | (with_reducible first | exact HI104.out | apply IsS82.alloc | apply IsS82.drewN | apply IsS82.drew | apply IsS82.set_1 | apply IsS82.set_2) | exact HI104.out)); (case side2 => repeat (first | (with_reducible first | exact HB.out | apply below_alloc | apply pw_below_drewN | apply below_drew1 | refine below_set ?_ (IsS82.ge HI104.out)) | exact HB.out)); rintro e w10 ⟨rfl, hi, hb, hk⟩; refine ⟨_, rfl, ?_⟩; have n0_ := Aside0.mk (Kd.R_mono (Kd.R_keep (IsS82.apart (show IsS82 w _ g104 t101 t108 t109 from by repeat (first | (with_reducible first | exact HI104.out | apply IsS82.alloc | apply IsS82.drewN | apply IsS82.drew | apply IsS82.set_1 | apply IsS82.set_2) | exact HI104.out)) (by (with_reducible repeat (first | apply Kd.R_alloc | apply Kd.R_drewN | apply Kd.R_drew)); exact HO107.out) (by decide)) hk (fun _ h => h.2)) (fun _ h => h.1)); have n1_ := Aside0.mk (hb); have n2_ := Aside0.mk (hi); clear HO107; clear HB; clear HI104; have HO107 := n0_; have HB := n1_; have HI104 := n2_; clear n0_ n1_ n2_; (try clear hb); (try clear hb2); (try clear hk); (try clear hi)))
  go_ret
  exact ⟨by first | rfl | (simp [errW_none, errW_some] <;> rfl) | (simp [*, errW_none, errW_some] <;> rfl), by repeat (first | (with_reducible first | exact HB.out | apply below_alloc | apply pw_below_drewN | apply below_drew1 | refine below_set ?_ (IsS82.ge HI104.out)) | exact HB.out)⟩

end Go.Proofs.Ytccbjchlcelkgaa.Pr
