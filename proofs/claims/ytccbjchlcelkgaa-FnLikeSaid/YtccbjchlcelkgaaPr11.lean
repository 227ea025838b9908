-- Written by mkprint.py (a program of this repo, which drives the print.py of the kit): Lean checks it.
import Derived.Test.YtccbjchlcelkgaaPr0x
import Derived.Test.YtccbjchlcelkgaaHbytes
import Derived.Test.YtccbjchlcelkgaaPr54
import Derived.Test.YtccbjchlcelkgaaPr55
import Derived.Test.YtccbjchlcelkgaaPrcur
namespace Go.Proofs.Ytccbjchlcelkgaa.Pr
open Go.RowKit Go.Proofs.YtccbjchlcelkgaaW.PrintWords Go.Proofs.YtccbjchlcelkgaaW.PrintLast Go.Proofs.YtccbjchlcelkgaaW.PrintMore
attribute [local go_sem] max2_int min2_int max_two min_two max_three min_three max_four min_four   -- for this text's walks alone
set_option linter.unusedVariables false
set_option linter.unusedSimpArgs false

/-! ### spec_DrawLike: function 11 -/
mutual
def spec_DrawLike.l0 : Nat → ByteArray → ByteArray → Int → List Int → Int → Int → Option (ByteArray × ByteArray)
  | 0, _, _, _, _, _, _ => none
  | k + 1, x5, x6, x7, x105000, x105001, x105002 => if x7 > 0 then ((spec_l1Cur_of.f x105000 x105001 x105002 (([(⟨#[97]⟩ : ByteArray), (⟨#[98]⟩ : ByteArray), (⟨#[97, 98]⟩ : ByteArray), (⟨#[42]⟩ : ByteArray), (⟨#[92]⟩ : ByteArray), (⟨#[97, 97]⟩ : ByteArray)] : List ByteArray))).bind fun bt111 => (if x5.size + bt111.1.size ≤ 9223372036854775807 then ((spec_l1Cur_pick.f x105000 bt111.2.1 bt111.2.2 4).bind fun bt114 => (if bt114.1 = 0 then (if x6.size + 1 ≤ 9223372036854775807 then (spec_DrawLike.l0 k (x5 ++ bt111.1) (x6 ++ (⟨#[42]⟩ : ByteArray)) (wrap64 (x7 - 1)) x105000 bt114.2.1 bt114.2.2) else (none)) else (if bt114.1 = 1 then ((spec_l1Cur_of.f x105000 bt114.2.1 bt114.2.2 (([(⟨#[42]⟩ : ByteArray), (⟨#[97]⟩ : ByteArray), (⟨#[98]⟩ : ByteArray), (⟨#[92, 42]⟩ : ByteArray), (⟨#[92, 92]⟩ : ByteArray), (⟨#[92]⟩ : ByteArray), (⟨#[92, 97]⟩ : ByteArray)] : List ByteArray))).bind fun bt120 => (if x6.size + bt120.1.size ≤ 9223372036854775807 then (spec_DrawLike.l0 k (x5 ++ bt111.1) (x6 ++ bt120.1) (wrap64 (x7 - 1)) x105000 bt120.2.1 bt120.2.2) else (none))) else (spec_DrawLike.l1 k (x5 ++ bt111.1) x6 x7 bt111.1 0 x105000 bt114.2.1 bt114.2.2)))) else (none))) else (some (x5, x6))
def spec_DrawLike.l1 : Nat → ByteArray → ByteArray → Int → ByteArray → Int → List Int → Int → Int → Option (ByteArray × ByteArray)
  | 0, _, _, _, _, _, _, _, _ => none
  | k + 1, x5, x6, x7, x8, x9, x105000, x105001, x105002 => if x9 < (x8.size : Int) then (if 0 ≤ x9 then (if (bt x8 x9) = 42 then (if x6.size + 1 ≤ 9223372036854775807 then (if x9 ≤ (wrap64 (x9 + 1)) then (if (wrap64 (x9 + 1)) ≤ (x8.size : Int) then (if (x6 ++ (⟨#[92]⟩ : ByteArray)).size + (x8.extract (x9 : Int).toNat ((wrap64 (x9 + 1)) : Int).toNat).size ≤ 9223372036854775807 then (spec_DrawLike.l1 k x5 ((x6 ++ (⟨#[92]⟩ : ByteArray)) ++ (x8.extract (x9 : Int).toNat ((wrap64 (x9 + 1)) : Int).toNat)) x7 x8 (wrap64 (x9 + 1)) x105000 x105001 x105002) else (none)) else (none)) else (none)) else (none)) else (if (bt x8 x9) = 92 then (if x6.size + 1 ≤ 9223372036854775807 then (if x9 ≤ (wrap64 (x9 + 1)) then (if (wrap64 (x9 + 1)) ≤ (x8.size : Int) then (if (x6 ++ (⟨#[92]⟩ : ByteArray)).size + (x8.extract (x9 : Int).toNat ((wrap64 (x9 + 1)) : Int).toNat).size ≤ 9223372036854775807 then (spec_DrawLike.l1 k x5 ((x6 ++ (⟨#[92]⟩ : ByteArray)) ++ (x8.extract (x9 : Int).toNat ((wrap64 (x9 + 1)) : Int).toNat)) x7 x8 (wrap64 (x9 + 1)) x105000 x105001 x105002) else (none)) else (none)) else (none)) else (none)) else (if x9 ≤ (wrap64 (x9 + 1)) then (if (wrap64 (x9 + 1)) ≤ (x8.size : Int) then (if x6.size + (x8.extract (x9 : Int).toNat ((wrap64 (x9 + 1)) : Int).toNat).size ≤ 9223372036854775807 then (spec_DrawLike.l1 k x5 (x6 ++ (x8.extract (x9 : Int).toNat ((wrap64 (x9 + 1)) : Int).toNat)) x7 x8 (wrap64 (x9 + 1)) x105000 x105001 x105002) else (none)) else (none)) else (none)))) else (none)) else (spec_DrawLike.l0 k x5 x6 (wrap64 (x7 - 1)) x105000 x105001 x105002)
end
def spec_DrawLike.f (k : Nat) (l0 : List Int) : Option (ByteArray × ByteArray) := (newCur.f l0 0 0).bind fun bt101 => ((spec_l1Cur_pick.f bt101.1 bt101.2.1 bt101.2.2 9).bind fun bt105 => (spec_DrawLike.l0 k (⟨#[]⟩ : ByteArray) (⟨#[]⟩ : ByteArray) bt105.1 bt101.1 bt105.2.1 bt105.2.2))
theorem spec_DrawLike.mono_l : ∀ k, (∀ y0 y1 y2 y3 y4 y5, LeO (spec_DrawLike.l0 k y0 y1 y2 y3 y4 y5) (spec_DrawLike.l0 (k + 1) y0 y1 y2 y3 y4 y5)) ∧ (∀ y0 y1 y2 y3 y4 y5 y6 y7, LeO (spec_DrawLike.l1 k y0 y1 y2 y3 y4 y5 y6 y7) (spec_DrawLike.l1 (k + 1) y0 y1 y2 y3 y4 y5 y6 y7))
  | 0 => ⟨fun _ _ _ _ _ _ r h => by simp [spec_DrawLike.l0] at h, fun _ _ _ _ _ _ _ _ r h => by simp [spec_DrawLike.l1] at h⟩
  | k + 1 => by
    obtain ⟨ih0, ih1⟩ := spec_DrawLike.mono_l k
    refine ⟨?_, ?_⟩
    · intro y0 y1 y2 y3 y4 y5
      unfold spec_DrawLike.l0
      repeat' first
      | (with_reducible exact ih0 _ _ _ _ _ _)
      | (with_reducible exact ih1 _ _ _ _ _ _ _ _)
      | (with_reducible exact LeO.refl _)
      | (with_reducible exact LeO.none _)
      | (with_reducible refine LeO.ite ?_ ?_)
      | (with_reducible refine LeO.bind ?_ (fun _ => ?_))
      | exact ih0 _ _ _ _ _ _
      | exact ih1 _ _ _ _ _ _ _ _
      | exact LeO.none _
      | refine LeO.ite ?_ ?_
      | refine LeO.bind ?_ (fun _ => ?_)
    · intro y0 y1 y2 y3 y4 y5 y6 y7
      unfold spec_DrawLike.l1
      repeat' first
      | (with_reducible exact ih0 _ _ _ _ _ _)
      | (with_reducible exact ih1 _ _ _ _ _ _ _ _)
      | (with_reducible exact LeO.refl _)
      | (with_reducible exact LeO.none _)
      | (with_reducible refine LeO.ite ?_ ?_)
      | (with_reducible refine LeO.bind ?_ (fun _ => ?_))
      | exact ih0 _ _ _ _ _ _
      | exact ih1 _ _ _ _ _ _ _ _
      | exact LeO.none _
      | refine LeO.ite ?_ ?_
      | refine LeO.bind ?_ (fun _ => ?_)
theorem spec_DrawLike.mono : ∀ a0 k, LeO (spec_DrawLike.f k a0) (spec_DrawLike.f (k + 1) a0) := by
  intro a0 k
  obtain ⟨ih0, ih1⟩ := spec_DrawLike.mono_l k
  unfold spec_DrawLike.f
  repeat' first
      | (with_reducible exact ih0 _ _ _ _ _ _)
      | (with_reducible exact ih1 _ _ _ _ _ _ _ _)
      | (with_reducible exact LeO.refl _)
      | (with_reducible exact LeO.none _)
      | (with_reducible refine LeO.ite ?_ ?_)
      | (with_reducible refine LeO.bind ?_ (fun _ => ?_))
      | exact ih0 _ _ _ _ _ _
      | exact ih1 _ _ _ _ _ _ _ _
      | exact LeO.none _
      | refine LeO.ite ?_ ?_
      | refine LeO.bind ?_ (fun _ => ?_)
set_option maxHeartbeats 8000000 in
set_option maxRecDepth 100000 in
theorem spec_DrawLike.calls (k : Nat) (A0 : Option Addr) (c0 : Nat) (l0 : List Int) (r1 : ByteArray) (r2 : ByteArray) (w : World) (hr0 : Kd.C (Kd.int .u8) w A0 l0.length l0) (hc0 : l0.length ≤ c0) (h : spec_DrawLike.f k l0 = some (r1, r2)) :
    Calls Try.prog 11 #[.slice A0 l0.length c0] w fun e w' => e = .returned (.tuple #[.string r1, .string r2]) ∧ Below w.heap.size w w' := by
  have hu82 := Try.underlying82
  have HR0 := Aside0.mk hr0
  have HC0 := Aside0.mk hc0
  clear hr0 hc0
  have HB := Aside0.mk (Below.refl w.heap.size w)
  have H : ((newCur.f l0 0 0).bind fun bt101 => ((spec_l1Cur_pick.f bt101.1 bt101.2.1 bt101.2.2 9).bind fun bt105 => (spec_DrawLike.l0 k (⟨#[]⟩ : ByteArray) (⟨#[]⟩ : ByteArray) bt105.1 bt101.1 bt105.2.1 bt105.2.2))) = some (r1, r2) := h
  clear h
  replace H := Option.bind_eq_some_iff.mp H
  obtain ⟨⟨t101, t102, t103⟩, A20, H⟩ := H
  replace H : ((spec_l1Cur_pick.f t101 t102 t103 9).bind fun bt105 => (spec_DrawLike.l0 k (⟨#[]⟩ : ByteArray) (⟨#[]⟩ : ByteArray) bt105.1 t101 bt105.2.1 bt105.2.2)) = some (r1, r2) := H
  have A2 := Aside0.mk A20
  clear A20
  replace H := Option.bind_eq_some_iff.mp H
  obtain ⟨⟨t105, t106, t107⟩, A30, H⟩ := H
  replace H : (spec_DrawLike.l0 k (⟨#[]⟩ : ByteArray) (⟨#[]⟩ : ByteArray) t105 t101 t106 t107) = some (r1, r2) := H
  have A3 := Aside0.mk A30
  clear A30
  have H' := Aside0.mk H
  clear H
  go_enter Try.func11, Try.ntmps11
  go_wp2_with (first | ((with_reducible refine gate_box (t := 82) rfl ?_); refine boxGoesL_ (some 12) rfl rfl (t := 82) (cs := #[.slice A0 l0.length c0, .int .i64 0, .int .u64 0]) (by first | (go_simp; done) | (go_simp; rfl)) ?_; (with_reducible refine (newCur.calls _ _ l0 0 0 t101 t102 t103 w _ ?side1 ?side2 ?side3 A2.out).mono ?_); (case side1 => repeat (first | (with_reducible first | exact HB.out | apply below_alloc | apply pw_below_drewN | apply below_drew1) | exact HB.out)); (case side2 => exact HR0.out); (case side3 => exact HC0.out); rintro e w4 ⟨g104, rfl, hi, hb, hb2⟩; refine ⟨_, rfl, ?_⟩; have n0_ := Aside0.mk (hb); have n1_ := Aside0.mk (hi); clear HB; have HB := n0_; have HI104 := n1_; clear n0_ n1_; (try clear hb); (try clear hb2); (try clear hk); (try clear hi)) | ((with_reducible refine gate_callee (f := 54) rfl ?_); refine goesL_ (some 14) rfl rfl Try.func54 (by kernel_rfl) rfl #[.pointer (some ⟨g104, 0, none⟩), .int .i64 9] rfl (by (try simp only [List.map_toArray, List.map_cons, List.map_nil]); first | done | rfl | (simp only [List.length_drop, List.length_take]; rfl)) ?_; (with_reducible refine (spec_l1Cur_pick.calls g104 t101 t102 t103 9 t105 t106 t107 w _ ?side1 ?side2 A3.out).mono ?_); (case side1 => repeat (first | (with_reducible first | exact HI104.out | apply IsS82.alloc | apply IsS82.drewN | apply IsS82.drew | apply IsS82.set_1 | apply IsS82.set_2) | exact HI104.out)); (case side2 => repeat (first | (with_reducible first | exact HB.out | apply below_alloc | apply pw_below_drewN | apply below_drew1 | refine below_set ?_ (IsS82.ge HI104.out)) | exact HB.out)); rintro e w5 ⟨rfl, hi, hb, hk⟩; refine ⟨_, rfl, ?_⟩; have n0_ := Aside0.mk (hb); have n1_ := Aside0.mk (hi); clear HB; clear HI104; have HB := n0_; have HI104 := n1_; clear n0_ n1_; (try clear hb); (try clear hb2); (try clear hk); (try clear hi)))
  go_loopg [5, 6, 7] k (fun kq v5 v6 v7 w' => ∃ (x5_1 : ByteArray) (x6_1 : ByteArray) (x7_1 : Int) (x105001_1 : Int) (x105002_1 : Int), v5 = .string x5_1 ∧ v6 = .string x6_1 ∧ v7 = .int .i64 x7_1 ∧ Aside0 (spec_DrawLike.l0 kq x5_1 x6_1 x7_1 t101 x105001_1 x105002_1 = some (r1, r2)) ∧ Aside0 (kq ≤ k) ∧ Aside0 (IsS82 w w' g104 t101 x105001_1 x105002_1) ∧ Aside0 (Below w.heap.size w w'))
  case atStart => exact ⟨((⟨#[]⟩ : ByteArray)), ((⟨#[]⟩ : ByteArray)), (t105), (t106), (t107), (by first | rfl | (simp; done) | (simp [*]; done)), (by first | rfl | (simp; done) | (simp [*]; done)), (by first | rfl | (simp; done) | (simp [*]; done)), H', ⟨Nat.le_refl _⟩, ⟨by repeat (first | (with_reducible first | exact HI104.out | apply IsS82.alloc | apply IsS82.drewN | apply IsS82.drew | apply IsS82.set_1 | apply IsS82.set_2) | exact HI104.out)⟩, ⟨by repeat (first | (with_reducible first | exact HB.out | apply below_alloc | apply pw_below_drewN | apply below_drew1 | refine below_set ?_ (IsS82.ge HI104.out)) | exact HB.out)⟩⟩
  case round =>
    clear H'
    try clear c1
    try clear c2
    try clear p2
    try clear c5
    obtain ⟨x5_1, x6_1, x7_1, x105001_1, x105002_1, rfl, rfl, rfl, HA, HK1, HI104, HB⟩ := hrel
    cases gk with
    | zero => exact absurd HA.out (by simp [spec_DrawLike.l0])
    | succ k1 =>
      have H := HA.out
      clear HA
      simp only [spec_DrawLike.l0] at H
      by_cases c6 : x7_1 > 0
      · rw [if_pos c6] at H
        have c6b0 : decide (0 < x7_1) = true := decide_eq_true c6
        clear c6
        obtain ⟨y108, hy108⟩ : ∃ y_ : List ByteArray, y_ = (([(⟨#[97]⟩ : ByteArray), (⟨#[98]⟩ : ByteArray), (⟨#[97, 98]⟩ : ByteArray), (⟨#[42]⟩ : ByteArray), (⟨#[92]⟩ : ByteArray), (⟨#[97, 97]⟩ : ByteArray)] : List ByteArray)) := ⟨_, rfl⟩
        replace H : ((spec_l1Cur_of.f t101 x105001_1 x105002_1 y108).bind fun bt111 => (if x5_1.size + bt111.1.size ≤ 9223372036854775807 then ((spec_l1Cur_pick.f t101 bt111.2.1 bt111.2.2 4).bind fun bt114 => (if bt114.1 = 0 then (if x6_1.size + 1 ≤ 9223372036854775807 then (spec_DrawLike.l0 k1 (x5_1 ++ bt111.1) (x6_1 ++ (⟨#[42]⟩ : ByteArray)) (wrap64 (x7_1 - 1)) t101 bt114.2.1 bt114.2.2) else (none)) else (if bt114.1 = 1 then ((spec_l1Cur_of.f t101 bt114.2.1 bt114.2.2 (([(⟨#[42]⟩ : ByteArray), (⟨#[97]⟩ : ByteArray), (⟨#[98]⟩ : ByteArray), (⟨#[92, 42]⟩ : ByteArray), (⟨#[92, 92]⟩ : ByteArray), (⟨#[92]⟩ : ByteArray), (⟨#[92, 97]⟩ : ByteArray)] : List ByteArray))).bind fun bt120 => (if x6_1.size + bt120.1.size ≤ 9223372036854775807 then (spec_DrawLike.l0 k1 (x5_1 ++ bt111.1) (x6_1 ++ bt120.1) (wrap64 (x7_1 - 1)) t101 bt120.2.1 bt120.2.2) else (none))) else (spec_DrawLike.l1 k1 (x5_1 ++ bt111.1) x6_1 x7_1 bt111.1 0 t101 bt114.2.1 bt114.2.2)))) else (none))) = some (r1, r2) := by first | (rw [hy108]; with_reducible exact H) | (have H2_ := (Option.bind_some _ _).symm.trans H; rw [hy108]; with_reducible exact H2_) | (have H2_ := (Option.bind_some _ _).symm.trans H; with_reducible exact H2_) | with_reducible exact H | (rw [hy108]; exact H) | exact H
        have Ny108 := Aside0.mk hy108
        clear hy108
        replace H := Option.bind_eq_some_iff.mp H
        obtain ⟨⟨t111, t112, t113⟩, A70, H⟩ := H
        replace H : (if x5_1.size + t111.size ≤ 9223372036854775807 then ((spec_l1Cur_pick.f t101 t112 t113 4).bind fun bt114 => (if bt114.1 = 0 then (if x6_1.size + 1 ≤ 9223372036854775807 then (spec_DrawLike.l0 k1 (x5_1 ++ t111) (x6_1 ++ (⟨#[42]⟩ : ByteArray)) (wrap64 (x7_1 - 1)) t101 bt114.2.1 bt114.2.2) else (none)) else (if bt114.1 = 1 then ((spec_l1Cur_of.f t101 bt114.2.1 bt114.2.2 (([(⟨#[42]⟩ : ByteArray), (⟨#[97]⟩ : ByteArray), (⟨#[98]⟩ : ByteArray), (⟨#[92, 42]⟩ : ByteArray), (⟨#[92, 92]⟩ : ByteArray), (⟨#[92]⟩ : ByteArray), (⟨#[92, 97]⟩ : ByteArray)] : List ByteArray))).bind fun bt120 => (if x6_1.size + bt120.1.size ≤ 9223372036854775807 then (spec_DrawLike.l0 k1 (x5_1 ++ t111) (x6_1 ++ bt120.1) (wrap64 (x7_1 - 1)) t101 bt120.2.1 bt120.2.2) else (none))) else (spec_DrawLike.l1 k1 (x5_1 ++ t111) x6_1 x7_1 t111 0 t101 bt114.2.1 bt114.2.2)))) else (none)) = some (r1, r2) := H
        have A7 := Aside0.mk A70
        clear A70
        by_cases c8 : x5_1.size + t111.size ≤ 9223372036854775807
        · rw [if_pos c8] at H
          have c8b0 := eq_true c8
          have c8b1 : decide (x5_1.size + t111.size ≤ 9223372036854775807) = true := decide_eq_true c8
          try have c8b2 : (9223372036854775807 < x5_1.size + t111.size) = False := eq_false (Nat.not_lt.2 c8)
          replace H := Option.bind_eq_some_iff.mp H
          obtain ⟨⟨t114, t115, t116⟩, A90, H⟩ := H
          replace H : (if t114 = 0 then (if x6_1.size + 1 ≤ 9223372036854775807 then (spec_DrawLike.l0 k1 (x5_1 ++ t111) (x6_1 ++ (⟨#[42]⟩ : ByteArray)) (wrap64 (x7_1 - 1)) t101 t115 t116) else (none)) else (if t114 = 1 then ((spec_l1Cur_of.f t101 t115 t116 (([(⟨#[42]⟩ : ByteArray), (⟨#[97]⟩ : ByteArray), (⟨#[98]⟩ : ByteArray), (⟨#[92, 42]⟩ : ByteArray), (⟨#[92, 92]⟩ : ByteArray), (⟨#[92]⟩ : ByteArray), (⟨#[92, 97]⟩ : ByteArray)] : List ByteArray))).bind fun bt120 => (if x6_1.size + bt120.1.size ≤ 9223372036854775807 then (spec_DrawLike.l0 k1 (x5_1 ++ t111) (x6_1 ++ bt120.1) (wrap64 (x7_1 - 1)) t101 bt120.2.1 bt120.2.2) else (none))) else (spec_DrawLike.l1 k1 (x5_1 ++ t111) x6_1 x7_1 t111 0 t101 t115 t116))) = some (r1, r2) := H
          have A9 := Aside0.mk A90
          clear A90
          by_cases c10 : t114 = 0
          · rw [if_pos c10] at H
            have c10b0 : (t114 == 0) = true := beq_iff_eq.mpr c10
            have c10b1 : (t114 != 0) = false := bne_eq_false_iff_eq.mpr c10
            clear c10
            by_cases c11 : x6_1.size + 1 ≤ 9223372036854775807
            · rw [if_pos c11] at H
              have c11b0 := eq_true c11
              have c11b1 : decide (x6_1.size + 1 ≤ 9223372036854775807) = true := decide_eq_true c11
              try have c11b2 : (9223372036854775807 < x6_1.size + 1) = False := eq_false (Nat.not_lt.2 c11)
              have H' := Aside0.mk H
              clear H
              go_wp2_with (first | ((with_reducible refine gate_dst (N := 20) rfl ?_); refine Kd.R_lit Kd.string _ 9 ?hg (N := 20) ?hd (xs := ([(⟨#[97]⟩ : ByteArray), (⟨#[98]⟩ : ByteArray), (⟨#[97, 98]⟩ : ByteArray), (⟨#[42]⟩ : ByteArray), (⟨#[92]⟩ : ByteArray), (⟨#[97, 97]⟩ : ByteArray)] : List ByteArray)) (inner := [.string (⟨#[97]⟩ : ByteArray), .string (⟨#[98]⟩ : ByteArray), .string (⟨#[97, 98]⟩ : ByteArray), .string (⟨#[42]⟩ : ByteArray), .string (⟨#[92]⟩ : ByteArray), .string (⟨#[97, 97]⟩ : ByteArray)]) (ok := fun _ => True) (okp := fun _ => True) ?hr ?hp (fun _ hk => hk) trivial (Below.refl _ _) (Nat.le_refl _) (by simp) ?_; (case hd => rfl); (case hg => rfl); (case hr => first | (go_simp; done) | (go_simp; rfl)); (case hp => exact (Reps.one (show Kd.M Kd.string _ _ _ (⟨#[97]⟩ : ByteArray) [.string (⟨#[97]⟩ : ByteArray)] from rfl) (Reps.one (show Kd.M Kd.string _ _ _ (⟨#[98]⟩ : ByteArray) [.string (⟨#[98]⟩ : ByteArray)] from rfl) (Reps.one (show Kd.M Kd.string _ _ _ (⟨#[97, 98]⟩ : ByteArray) [.string (⟨#[97, 98]⟩ : ByteArray)] from rfl) (Reps.one (show Kd.M Kd.string _ _ _ (⟨#[42]⟩ : ByteArray) [.string (⟨#[42]⟩ : ByteArray)] from rfl) (Reps.one (show Kd.M Kd.string _ _ _ (⟨#[92]⟩ : ByteArray) [.string (⟨#[92]⟩ : ByteArray)] from rfl) (Reps.one (show Kd.M Kd.string _ _ _ (⟨#[97, 97]⟩ : ByteArray) [.string (⟨#[97, 97]⟩ : ByteArray)] from rfl) (Reps.none _ _)))))))); intro v109 w12 ho13 hb hg_ hnew_; clear hg_ hnew_; (first | rw [← Ny108.out] at ho13 | (simp only [Int.reduceToNat] at ho13; rw [← Ny108.out] at ho13)); have n0_ := Aside0.mk (Kd.R_lower ho13 (below_size (by repeat (first | (with_reducible first | exact HB.out | apply below_alloc | apply pw_below_drewN | apply below_drew1 | refine below_set ?_ (IsS82.ge HI104.out)) | exact HB.out)))); have n1_ := Aside0.mk (IsS82.below (by repeat (first | (with_reducible first | exact HI104.out | apply IsS82.alloc | apply IsS82.drewN | apply IsS82.drew | apply IsS82.set_1 | apply IsS82.set_2) | exact HI104.out)) hb); have n2_ := Aside0.mk (below_step (by repeat (first | (with_reducible first | exact HB.out | apply below_alloc | apply pw_below_drewN | apply below_drew1 | refine below_set ?_ (IsS82.ge HI104.out)) | exact HB.out)) hb); clear HI104; clear HB; have HO110 := n0_; have HI104 := n1_; have HB := n2_; clear n0_ n1_ n2_; clear hb ho13; obtain ⟨Ao14, co14, eo14⟩ := Kd.R_slice HO110.out; subst eo14) | ((with_reducible refine gate_callee (f := 55) rfl ?_); refine goesL_ (some 21) rfl rfl Try.func55 (by kernel_rfl) rfl #[.pointer (some ⟨g104, 0, none⟩), .slice Ao14 y108.length co14] rfl (by (try simp only [List.map_toArray, List.map_cons, List.map_nil]); first | done | rfl | (simp only [List.length_drop, List.length_take]; rfl)) ?_; (with_reducible refine (spec_l1Cur_of.calls g104 t101 x105001_1 x105002_1 _ _ y108 t111 t112 t113 w _ ?side1 ?side2 ?side3 ?side4 ?side5 A7.out).mono ?_); (case side1 => repeat (first | (with_reducible first | exact HI104.out | apply IsS82.alloc | apply IsS82.drewN | apply IsS82.drew | apply IsS82.set_1 | apply IsS82.set_2) | exact HI104.out)); (case side2 => repeat (first | (with_reducible first | exact HB.out | apply below_alloc | apply pw_below_drewN | apply below_drew1 | refine below_set ?_ (IsS82.ge HI104.out)) | exact HB.out)); (case side3 => repeat (first | exact (Kd.R_reads' HO110.out).2.2 | (with_reducible refine Kd.C_alloc ?_ _) | (with_reducible refine Kd.C_drewN ?_ _) | (with_reducible refine Kd.C_drew ?_))); (case side4 => exact (Kd.R_reads' HO110.out).2.1); (case side5 => exact far_slice (IsS82.own_ne HI104.out HO110.out (by decide))); rintro e w15 ⟨rfl, hi, hb, hk⟩; refine ⟨_, rfl, ?_⟩; have n0_ := Aside0.mk (Kd.R_mono (Kd.R_keep (IsS82.apart (show IsS82 w _ g104 t101 x105001_1 x105002_1 from by repeat (first | (with_reducible first | exact HI104.out | apply IsS82.alloc | apply IsS82.drewN | apply IsS82.drew | apply IsS82.set_1 | apply IsS82.set_2) | exact HI104.out)) (by (with_reducible repeat (first | apply Kd.R_alloc | apply Kd.R_drewN | apply Kd.R_drew)); exact HO110.out) (by decide)) hk (fun _ h => h.2)) (fun _ h => h.1)); have n1_ := Aside0.mk (hb); have n2_ := Aside0.mk (hi); clear HO110; clear HB; clear HI104; have HO110 := n0_; have HB := n1_; have HI104 := n2_; clear n0_ n1_ n2_; (try clear hb); (try clear hb2); (try clear hk); (try clear hi)) | ((with_reducible refine gate_callee (f := 54) rfl ?_); refine goesL_ (some 26) rfl rfl Try.func54 (by kernel_rfl) rfl #[.pointer (some ⟨g104, 0, none⟩), .int .i64 4] rfl (by (try simp only [List.map_toArray, List.map_cons, List.map_nil]); first | done | rfl | (simp only [List.length_drop, List.length_take]; rfl)) ?_; (with_reducible refine (spec_l1Cur_pick.calls g104 t101 t112 t113 4 t114 t115 t116 w _ ?side1 ?side2 A9.out).mono ?_); (case side1 => repeat (first | (with_reducible first | exact HI104.out | apply IsS82.alloc | apply IsS82.drewN | apply IsS82.drew | apply IsS82.set_1 | apply IsS82.set_2) | exact HI104.out)); (case side2 => repeat (first | (with_reducible first | exact HB.out | apply below_alloc | apply pw_below_drewN | apply below_drew1 | refine below_set ?_ (IsS82.ge HI104.out)) | exact HB.out)); rintro e w16 ⟨rfl, hi, hb, hk⟩; refine ⟨_, rfl, ?_⟩; have n0_ := Aside0.mk (Kd.R_mono (Kd.R_keep (IsS82.apart (show IsS82 w _ g104 t101 t112 t113 from by repeat (first | (with_reducible first | exact HI104.out | apply IsS82.alloc | apply IsS82.drewN | apply IsS82.drew | apply IsS82.set_1 | apply IsS82.set_2) | exact HI104.out)) (by (with_reducible repeat (first | apply Kd.R_alloc | apply Kd.R_drewN | apply Kd.R_drew)); exact HO110.out) (by decide)) hk (fun _ h => h.2)) (fun _ h => h.1)); have n1_ := Aside0.mk (hb); have n2_ := Aside0.mk (hi); clear HO110; clear HB; clear HI104; have HO110 := n0_; have HB := n1_; have HI104 := n2_; clear n0_ n1_ n2_; (try clear hb); (try clear hb2); (try clear hk); (try clear hi)))
              go_roundg k1
              case measure => have := HK1.out; omega
              case rel => exact ⟨(x5_1 ++ t111), (x6_1 ++ (⟨#[42]⟩ : ByteArray)), (wrap64 (x7_1 - 1)), (t115), (t116), (by first | rfl | (simp; done) | (simp [*]; done)), (by first | rfl | (simp; done) | (simp [*]; done)), (by first | rfl | (simp; done) | (simp [*]; done)), H', ⟨by have := HK1.out; omega⟩, ⟨by repeat (first | (with_reducible first | exact HI104.out | apply IsS82.alloc | apply IsS82.drewN | apply IsS82.drew | apply IsS82.set_1 | apply IsS82.set_2) | exact HI104.out)⟩, ⟨by repeat (first | (with_reducible first | exact HB.out | apply below_alloc | apply pw_below_drewN | apply below_drew1 | refine below_set ?_ (IsS82.ge HI104.out)) | exact HB.out)⟩⟩
            · rw [if_neg c11] at H
              exact absurd H (by simp)
          · rw [if_neg c10] at H
            have c10b0 : (t114 == 0) = false := beq_eq_false_iff_ne.mpr c10
            have c10b1 : (t114 != 0) = true := bne_iff_ne.mpr c10
            by_cases c17 : t114 = 1
            · rw [if_pos c17] at H
              have c17b0 : (t114 == 1) = true := beq_iff_eq.mpr c17
              have c17b1 : (t114 != 1) = false := bne_eq_false_iff_eq.mpr c17
              clear c17
              obtain ⟨y117, hy117⟩ : ∃ y_ : List ByteArray, y_ = (([(⟨#[42]⟩ : ByteArray), (⟨#[97]⟩ : ByteArray), (⟨#[98]⟩ : ByteArray), (⟨#[92, 42]⟩ : ByteArray), (⟨#[92, 92]⟩ : ByteArray), (⟨#[92]⟩ : ByteArray), (⟨#[92, 97]⟩ : ByteArray)] : List ByteArray)) := ⟨_, rfl⟩
              replace H : ((spec_l1Cur_of.f t101 t115 t116 y117).bind fun bt120 => (if x6_1.size + bt120.1.size ≤ 9223372036854775807 then (spec_DrawLike.l0 k1 (x5_1 ++ t111) (x6_1 ++ bt120.1) (wrap64 (x7_1 - 1)) t101 bt120.2.1 bt120.2.2) else (none))) = some (r1, r2) := by first | (rw [hy117]; with_reducible exact H) | (have H2_ := (Option.bind_some _ _).symm.trans H; rw [hy117]; with_reducible exact H2_) | (have H2_ := (Option.bind_some _ _).symm.trans H; with_reducible exact H2_) | with_reducible exact H | (rw [hy117]; exact H) | exact H
              have Ny117 := Aside0.mk hy117
              clear hy117
              replace H := Option.bind_eq_some_iff.mp H
              obtain ⟨⟨t120, t121, t122⟩, A180, H⟩ := H
              replace H : (if x6_1.size + t120.size ≤ 9223372036854775807 then (spec_DrawLike.l0 k1 (x5_1 ++ t111) (x6_1 ++ t120) (wrap64 (x7_1 - 1)) t101 t121 t122) else (none)) = some (r1, r2) := H
              have A18 := Aside0.mk A180
              clear A180
              by_cases c19 : x6_1.size + t120.size ≤ 9223372036854775807
              · rw [if_pos c19] at H
                have c19b0 := eq_true c19
                have c19b1 : decide (x6_1.size + t120.size ≤ 9223372036854775807) = true := decide_eq_true c19
                try have c19b2 : (9223372036854775807 < x6_1.size + t120.size) = False := eq_false (Nat.not_lt.2 c19)
                have H' := Aside0.mk H
                clear H
                go_wp2_with (first | ((with_reducible refine gate_dst (N := 20) rfl ?_); refine Kd.R_lit Kd.string _ 9 ?hg (N := 20) ?hd (xs := ([(⟨#[97]⟩ : ByteArray), (⟨#[98]⟩ : ByteArray), (⟨#[97, 98]⟩ : ByteArray), (⟨#[42]⟩ : ByteArray), (⟨#[92]⟩ : ByteArray), (⟨#[97, 97]⟩ : ByteArray)] : List ByteArray)) (inner := [.string (⟨#[97]⟩ : ByteArray), .string (⟨#[98]⟩ : ByteArray), .string (⟨#[97, 98]⟩ : ByteArray), .string (⟨#[42]⟩ : ByteArray), .string (⟨#[92]⟩ : ByteArray), .string (⟨#[97, 97]⟩ : ByteArray)]) (ok := fun _ => True) (okp := fun _ => True) ?hr ?hp (fun _ hk => hk) trivial (Below.refl _ _) (Nat.le_refl _) (by simp) ?_; (case hd => rfl); (case hg => rfl); (case hr => first | (go_simp; done) | (go_simp; rfl)); (case hp => exact (Reps.one (show Kd.M Kd.string _ _ _ (⟨#[97]⟩ : ByteArray) [.string (⟨#[97]⟩ : ByteArray)] from rfl) (Reps.one (show Kd.M Kd.string _ _ _ (⟨#[98]⟩ : ByteArray) [.string (⟨#[98]⟩ : ByteArray)] from rfl) (Reps.one (show Kd.M Kd.string _ _ _ (⟨#[97, 98]⟩ : ByteArray) [.string (⟨#[97, 98]⟩ : ByteArray)] from rfl) (Reps.one (show Kd.M Kd.string _ _ _ (⟨#[42]⟩ : ByteArray) [.string (⟨#[42]⟩ : ByteArray)] from rfl) (Reps.one (show Kd.M Kd.string _ _ _ (⟨#[92]⟩ : ByteArray) [.string (⟨#[92]⟩ : ByteArray)] from rfl) (Reps.one (show Kd.M Kd.string _ _ _ (⟨#[97, 97]⟩ : ByteArray) [.string (⟨#[97, 97]⟩ : ByteArray)] from rfl) (Reps.none _ _)))))))); intro v109 w20 ho21 hb hg_ hnew_; clear hg_ hnew_; (first | rw [← Ny108.out] at ho21 | (simp only [Int.reduceToNat] at ho21; rw [← Ny108.out] at ho21)); have n0_ := Aside0.mk (Kd.R_lower ho21 (below_size (by repeat (first | (with_reducible first | exact HB.out | apply below_alloc | apply pw_below_drewN | apply below_drew1 | refine below_set ?_ (IsS82.ge HI104.out)) | exact HB.out)))); have n1_ := Aside0.mk (IsS82.below (by repeat (first | (with_reducible first | exact HI104.out | apply IsS82.alloc | apply IsS82.drewN | apply IsS82.drew | apply IsS82.set_1 | apply IsS82.set_2) | exact HI104.out)) hb); have n2_ := Aside0.mk (below_step (by repeat (first | (with_reducible first | exact HB.out | apply below_alloc | apply pw_below_drewN | apply below_drew1 | refine below_set ?_ (IsS82.ge HI104.out)) | exact HB.out)) hb); clear HI104; clear HB; have HO110 := n0_; have HI104 := n1_; have HB := n2_; clear n0_ n1_ n2_; clear hb ho21; obtain ⟨Ao22, co22, eo22⟩ := Kd.R_slice HO110.out; subst eo22) | ((with_reducible refine gate_callee (f := 55) rfl ?_); refine goesL_ (some 21) rfl rfl Try.func55 (by kernel_rfl) rfl #[.pointer (some ⟨g104, 0, none⟩), .slice Ao22 y108.length co22] rfl (by (try simp only [List.map_toArray, List.map_cons, List.map_nil]); first | done | rfl | (simp only [List.length_drop, List.length_take]; rfl)) ?_; (with_reducible refine (spec_l1Cur_of.calls g104 t101 x105001_1 x105002_1 _ _ y108 t111 t112 t113 w _ ?side1 ?side2 ?side3 ?side4 ?side5 A7.out).mono ?_); (case side1 => repeat (first | (with_reducible first | exact HI104.out | apply IsS82.alloc | apply IsS82.drewN | apply IsS82.drew | apply IsS82.set_1 | apply IsS82.set_2) | exact HI104.out)); (case side2 => repeat (first | (with_reducible first | exact HB.out | apply below_alloc | apply pw_below_drewN | apply below_drew1 | refine below_set ?_ (IsS82.ge HI104.out)) | exact HB.out)); (case side3 => repeat (first | exact (Kd.R_reads' HO110.out).2.2 | (with_reducible refine Kd.C_alloc ?_ _) | (with_reducible refine Kd.C_drewN ?_ _) | (with_reducible refine Kd.C_drew ?_))); (case side4 => exact (Kd.R_reads' HO110.out).2.1); (case side5 => exact far_slice (IsS82.own_ne HI104.out HO110.out (by decide))); rintro e w23 ⟨rfl, hi, hb, hk⟩; refine ⟨_, rfl, ?_⟩; have n0_ := Aside0.mk (Kd.R_mono (Kd.R_keep (IsS82.apart (show IsS82 w _ g104 t101 x105001_1 x105002_1 from by repeat (first | (with_reducible first | exact HI104.out | apply IsS82.alloc | apply IsS82.drewN | apply IsS82.drew | apply IsS82.set_1 | apply IsS82.set_2) | exact HI104.out)) (by (with_reducible repeat (first | apply Kd.R_alloc | apply Kd.R_drewN | apply Kd.R_drew)); exact HO110.out) (by decide)) hk (fun _ h => h.2)) (fun _ h => h.1)); have n1_ := Aside0.mk (hb); have n2_ := Aside0.mk (hi); clear HO110; clear HB; clear HI104; have HO110 := n0_; have HB := n1_; have HI104 := n2_; clear n0_ n1_ n2_; (try clear hb); (try clear hb2); (try clear hk); (try clear hi)) | ((with_reducible refine gate_callee (f := 54) rfl ?_); refine goesL_ (some 26) rfl rfl Try.func54 (by kernel_rfl) rfl #[.pointer (some ⟨g104, 0, none⟩), .int .i64 4] rfl (by (try simp only [List.map_toArray, List.map_cons, List.map_nil]); first | done | rfl | (simp only [List.length_drop, List.length_take]; rfl)) ?_; (with_reducible refine (spec_l1Cur_pick.calls g104 t101 t112 t113 4 t114 t115 t116 w _ ?side1 ?side2 A9.out).mono ?_); (case side1 => repeat (first | (with_reducible first | exact HI104.out | apply IsS82.alloc | apply IsS82.drewN | apply IsS82.drew | apply IsS82.set_1 | apply IsS82.set_2) | exact HI104.out)); (case side2 => repeat (first | (with_reducible first | exact HB.out | apply below_alloc | apply pw_below_drewN | apply below_drew1 | refine below_set ?_ (IsS82.ge HI104.out)) | exact HB.out)); rintro e w24 ⟨rfl, hi, hb, hk⟩; refine ⟨_, rfl, ?_⟩; have n0_ := Aside0.mk (Kd.R_mono (Kd.R_keep (IsS82.apart (show IsS82 w _ g104 t101 t112 t113 from by repeat (first | (with_reducible first | exact HI104.out | apply IsS82.alloc | apply IsS82.drewN | apply IsS82.drew | apply IsS82.set_1 | apply IsS82.set_2) | exact HI104.out)) (by (with_reducible repeat (first | apply Kd.R_alloc | apply Kd.R_drewN | apply Kd.R_drew)); exact HO110.out) (by decide)) hk (fun _ h => h.2)) (fun _ h => h.1)); have n1_ := Aside0.mk (hb); have n2_ := Aside0.mk (hi); clear HO110; clear HB; clear HI104; have HO110 := n0_; have HB := n1_; have HI104 := n2_; clear n0_ n1_ n2_; (try clear hb); (try clear hb2); (try clear hk); (try clear hi)) | ((with_reducible refine gate_dst (N := 60) rfl ?_); refine Kd.R_lit Kd.string _ 9 ?hg (N := 60) ?hd (xs := ([(⟨#[42]⟩ : ByteArray), (⟨#[97]⟩ : ByteArray), (⟨#[98]⟩ : ByteArray), (⟨#[92, 42]⟩ : ByteArray), (⟨#[92, 92]⟩ : ByteArray), (⟨#[92]⟩ : ByteArray), (⟨#[92, 97]⟩ : ByteArray)] : List ByteArray)) (inner := [.string (⟨#[42]⟩ : ByteArray), .string (⟨#[97]⟩ : ByteArray), .string (⟨#[98]⟩ : ByteArray), .string (⟨#[92, 42]⟩ : ByteArray), .string (⟨#[92, 92]⟩ : ByteArray), .string (⟨#[92]⟩ : ByteArray), .string (⟨#[92, 97]⟩ : ByteArray)]) (ok := fun _ => True) (okp := fun _ => True) ?hr ?hp (fun _ hk => hk) trivial (Below.refl _ _) (Nat.le_refl _) (by simp) ?_; (case hd => rfl); (case hg => rfl); (case hr => first | (go_simp; done) | (go_simp; rfl)); (case hp => exact (Reps.one (show Kd.M Kd.string _ _ _ (⟨#[42]⟩ : ByteArray) [.string (⟨#[42]⟩ : ByteArray)] from rfl) (Reps.one (show Kd.M Kd.string _ _ _ (⟨#[97]⟩ : ByteArray) [.string (⟨#[97]⟩ : ByteArray)] from rfl) (Reps.one (show Kd.M Kd.string _ _ _ (⟨#[98]⟩ : ByteArray) [.string (⟨#[98]⟩ : ByteArray)] from rfl) (Reps.one (show Kd.M Kd.string _ _ _ (⟨#[92, 42]⟩ : ByteArray) [.string (⟨#[92, 42]⟩ : ByteArray)] from rfl) (Reps.one (show Kd.M Kd.string _ _ _ (⟨#[92, 92]⟩ : ByteArray) [.string (⟨#[92, 92]⟩ : ByteArray)] from rfl) (Reps.one (show Kd.M Kd.string _ _ _ (⟨#[92]⟩ : ByteArray) [.string (⟨#[92]⟩ : ByteArray)] from rfl) (Reps.one (show Kd.M Kd.string _ _ _ (⟨#[92, 97]⟩ : ByteArray) [.string (⟨#[92, 97]⟩ : ByteArray)] from rfl) (Reps.none _ _))))))))); intro v118 w25 ho26 hb hg_ hnew_; clear hg_ hnew_; (first | rw [← Ny117.out] at ho26 | (simp only [Int.reduceToNat] at ho26; rw [← Ny117.out] at ho26)); have n0_ := Aside0.mk (Kd.R_elder' (by (with_reducible repeat (first | apply Kd.R_alloc | apply Kd.R_drewN | apply Kd.R_drew)); exact HO110.out) (Kd.R_base ho26) hb); have n1_ := Aside0.mk (Kd.R_lower (Kd.R_new' ho26 (Kd.R_lt (by (with_reducible repeat (first | apply Kd.R_alloc | apply Kd.R_drewN | apply Kd.R_drew)); exact HO110.out))) (below_size (by repeat (first | (with_reducible first | exact HB.out | apply below_alloc | apply pw_below_drewN | apply below_drew1 | refine below_set ?_ (IsS82.ge HI104.out)) | exact HB.out)))); have n2_ := Aside0.mk (IsS82.below (by repeat (first | (with_reducible first | exact HI104.out | apply IsS82.alloc | apply IsS82.drewN | apply IsS82.drew | apply IsS82.set_1 | apply IsS82.set_2) | exact HI104.out)) hb); have n3_ := Aside0.mk (below_step (by repeat (first | (with_reducible first | exact HB.out | apply below_alloc | apply pw_below_drewN | apply below_drew1 | refine below_set ?_ (IsS82.ge HI104.out)) | exact HB.out)) hb); clear HO110; clear HI104; clear HB; have HO110 := n0_; have HO119 := n1_; have HI104 := n2_; have HB := n3_; clear n0_ n1_ n2_ n3_; clear hb ho26; obtain ⟨Ao27, co27, eo27⟩ := Kd.R_slice HO119.out; subst eo27) | ((with_reducible refine gate_callee (f := 55) rfl ?_); refine goesL_ (some 61) rfl rfl Try.func55 (by kernel_rfl) rfl #[.pointer (some ⟨g104, 0, none⟩), .slice Ao27 y117.length co27] rfl (by (try simp only [List.map_toArray, List.map_cons, List.map_nil]); first | done | rfl | (simp only [List.length_drop, List.length_take]; rfl)) ?_; (with_reducible refine (spec_l1Cur_of.calls g104 t101 t115 t116 _ _ y117 t120 t121 t122 w _ ?side1 ?side2 ?side3 ?side4 ?side5 A18.out).mono ?_); (case side1 => repeat (first | (with_reducible first | exact HI104.out | apply IsS82.alloc | apply IsS82.drewN | apply IsS82.drew | apply IsS82.set_1 | apply IsS82.set_2) | exact HI104.out)); (case side2 => repeat (first | (with_reducible first | exact HB.out | apply below_alloc | apply pw_below_drewN | apply below_drew1 | refine below_set ?_ (IsS82.ge HI104.out)) | exact HB.out)); (case side3 => repeat (first | exact (Kd.R_reads' HO119.out).2.2 | (with_reducible refine Kd.C_alloc ?_ _) | (with_reducible refine Kd.C_drewN ?_ _) | (with_reducible refine Kd.C_drew ?_))); (case side4 => exact (Kd.R_reads' HO119.out).2.1); (case side5 => exact far_slice (IsS82.own_ne HI104.out HO119.out (by decide))); rintro e w28 ⟨rfl, hi, hb, hk⟩; refine ⟨_, rfl, ?_⟩; have n0_ := Aside0.mk (Kd.R_mono (Kd.R_keep (IsS82.apart (show IsS82 w _ g104 t101 t115 t116 from by repeat (first | (with_reducible first | exact HI104.out | apply IsS82.alloc | apply IsS82.drewN | apply IsS82.drew | apply IsS82.set_1 | apply IsS82.set_2) | exact HI104.out)) (by (with_reducible repeat (first | apply Kd.R_alloc | apply Kd.R_drewN | apply Kd.R_drew)); exact HO110.out) (by decide)) hk (fun _ h => h.2)) (fun _ h => h.1)); have n1_ := Aside0.mk (Kd.R_mono (Kd.R_keep (IsS82.apart (show IsS82 w _ g104 t101 t115 t116 from by repeat (first | (with_reducible first | exact HI104.out | apply IsS82.alloc | apply IsS82.drewN | apply IsS82.drew | apply IsS82.set_1 | apply IsS82.set_2) | exact HI104.out)) (by (with_reducible repeat (first | apply Kd.R_alloc | apply Kd.R_drewN | apply Kd.R_drew)); exact HO119.out) (by decide)) hk (fun _ h => h.2)) (fun _ h => h.1)); have n2_ := Aside0.mk (hb); have n3_ := Aside0.mk (hi); clear HO110; clear HO119; clear HB; clear HI104; have HO110 := n0_; have HO119 := n1_; have HB := n2_; have HI104 := n3_; clear n0_ n1_ n2_ n3_; (try clear hb); (try clear hb2); (try clear hk); (try clear hi)))
                go_roundg k1
                case measure => have := HK1.out; omega
                case rel => exact ⟨(x5_1 ++ t111), (x6_1 ++ t120), (wrap64 (x7_1 - 1)), (t121), (t122), (by first | rfl | (simp; done) | (simp [*]; done)), (by first | rfl | (simp; done) | (simp [*]; done)), (by first | rfl | (simp; done) | (simp [*]; done)), H', ⟨by have := HK1.out; omega⟩, ⟨by repeat (first | (with_reducible first | exact HI104.out | apply IsS82.alloc | apply IsS82.drewN | apply IsS82.drew | apply IsS82.set_1 | apply IsS82.set_2) | exact HI104.out)⟩, ⟨by repeat (first | (with_reducible first | exact HB.out | apply below_alloc | apply pw_below_drewN | apply below_drew1 | refine below_set ?_ (IsS82.ge HI104.out)) | exact HB.out)⟩⟩
              · rw [if_neg c19] at H
                exact absurd H (by simp)
            · rw [if_neg c17] at H
              have c17b0 : (t114 == 1) = false := beq_eq_false_iff_ne.mpr c17
              have c17b1 : (t114 != 1) = true := bne_iff_ne.mpr c17
              have H' := Aside0.mk H
              clear H
              go_wp2_with (first | ((with_reducible refine gate_dst (N := 20) rfl ?_); refine Kd.R_lit Kd.string _ 9 ?hg (N := 20) ?hd (xs := ([(⟨#[97]⟩ : ByteArray), (⟨#[98]⟩ : ByteArray), (⟨#[97, 98]⟩ : ByteArray), (⟨#[42]⟩ : ByteArray), (⟨#[92]⟩ : ByteArray), (⟨#[97, 97]⟩ : ByteArray)] : List ByteArray)) (inner := [.string (⟨#[97]⟩ : ByteArray), .string (⟨#[98]⟩ : ByteArray), .string (⟨#[97, 98]⟩ : ByteArray), .string (⟨#[42]⟩ : ByteArray), .string (⟨#[92]⟩ : ByteArray), .string (⟨#[97, 97]⟩ : ByteArray)]) (ok := fun _ => True) (okp := fun _ => True) ?hr ?hp (fun _ hk => hk) trivial (Below.refl _ _) (Nat.le_refl _) (by simp) ?_; (case hd => rfl); (case hg => rfl); (case hr => first | (go_simp; done) | (go_simp; rfl)); (case hp => exact (Reps.one (show Kd.M Kd.string _ _ _ (⟨#[97]⟩ : ByteArray) [.string (⟨#[97]⟩ : ByteArray)] from rfl) (Reps.one (show Kd.M Kd.string _ _ _ (⟨#[98]⟩ : ByteArray) [.string (⟨#[98]⟩ : ByteArray)] from rfl) (Reps.one (show Kd.M Kd.string _ _ _ (⟨#[97, 98]⟩ : ByteArray) [.string (⟨#[97, 98]⟩ : ByteArray)] from rfl) (Reps.one (show Kd.M Kd.string _ _ _ (⟨#[42]⟩ : ByteArray) [.string (⟨#[42]⟩ : ByteArray)] from rfl) (Reps.one (show Kd.M Kd.string _ _ _ (⟨#[92]⟩ : ByteArray) [.string (⟨#[92]⟩ : ByteArray)] from rfl) (Reps.one (show Kd.M Kd.string _ _ _ (⟨#[97, 97]⟩ : ByteArray) [.string (⟨#[97, 97]⟩ : ByteArray)] from rfl) (Reps.none _ _)))))))); intro v109 w29 ho30 hb hg_ hnew_; clear hg_ hnew_; (first | rw [← Ny108.out] at ho30 | (simp only [Int.reduceToNat] at ho30; rw [← Ny108.out] at ho30)); have n0_ := Aside0.mk (Kd.R_lower ho30 (below_size (by repeat (first | (with_reducible first | exact HB.out | apply below_alloc | apply pw_below_drewN | apply below_drew1 | refine below_set ?_ (IsS82.ge HI104.out)) | exact HB.out)))); have n1_ := Aside0.mk (IsS82.below (by repeat (first | (with_reducible first | exact HI104.out | apply IsS82.alloc | apply IsS82.drewN | apply IsS82.drew | apply IsS82.set_1 | apply IsS82.set_2) | exact HI104.out)) hb); have n2_ := Aside0.mk (below_step (by repeat (first | (with_reducible first | exact HB.out | apply below_alloc | apply pw_below_drewN | apply below_drew1 | refine below_set ?_ (IsS82.ge HI104.out)) | exact HB.out)) hb); clear HI104; clear HB; have HO110 := n0_; have HI104 := n1_; have HB := n2_; clear n0_ n1_ n2_; clear hb ho30; obtain ⟨Ao31, co31, eo31⟩ := Kd.R_slice HO110.out; subst eo31) | ((with_reducible refine gate_callee (f := 55) rfl ?_); refine goesL_ (some 21) rfl rfl Try.func55 (by kernel_rfl) rfl #[.pointer (some ⟨g104, 0, none⟩), .slice Ao31 y108.length co31] rfl (by (try simp only [List.map_toArray, List.map_cons, List.map_nil]); first | done | rfl | (simp only [List.length_drop, List.length_take]; rfl)) ?_; (with_reducible refine (spec_l1Cur_of.calls g104 t101 x105001_1 x105002_1 _ _ y108 t111 t112 t113 w _ ?side1 ?side2 ?side3 ?side4 ?side5 A7.out).mono ?_); (case side1 => repeat (first | (with_reducible first | exact HI104.out | apply IsS82.alloc | apply IsS82.drewN | apply IsS82.drew | apply IsS82.set_1 | apply IsS82.set_2) | exact HI104.out)); (case side2 => repeat (first | (with_reducible first | exact HB.out | apply below_alloc | apply pw_below_drewN | apply below_drew1 | refine below_set ?_ (IsS82.ge HI104.out)) | exact HB.out)); (case side3 => repeat (first | exact (Kd.R_reads' HO110.out).2.2 | (with_reducible refine Kd.C_alloc ?_ _) | (with_reducible refine Kd.C_drewN ?_ _) | (with_reducible refine Kd.C_drew ?_))); (case side4 => exact (Kd.R_reads' HO110.out).2.1); (case side5 => exact far_slice (IsS82.own_ne HI104.out HO110.out (by decide))); rintro e w32 ⟨rfl, hi, hb, hk⟩; refine ⟨_, rfl, ?_⟩; have n0_ := Aside0.mk (Kd.R_mono (Kd.R_keep (IsS82.apart (show IsS82 w _ g104 t101 x105001_1 x105002_1 from by repeat (first | (with_reducible first | exact HI104.out | apply IsS82.alloc | apply IsS82.drewN | apply IsS82.drew | apply IsS82.set_1 | apply IsS82.set_2) | exact HI104.out)) (by (with_reducible repeat (first | apply Kd.R_alloc | apply Kd.R_drewN | apply Kd.R_drew)); exact HO110.out) (by decide)) hk (fun _ h => h.2)) (fun _ h => h.1)); have n1_ := Aside0.mk (hb); have n2_ := Aside0.mk (hi); clear HO110; clear HB; clear HI104; have HO110 := n0_; have HB := n1_; have HI104 := n2_; clear n0_ n1_ n2_; (try clear hb); (try clear hb2); (try clear hk); (try clear hi)) | ((with_reducible refine gate_callee (f := 54) rfl ?_); refine goesL_ (some 26) rfl rfl Try.func54 (by kernel_rfl) rfl #[.pointer (some ⟨g104, 0, none⟩), .int .i64 4] rfl (by (try simp only [List.map_toArray, List.map_cons, List.map_nil]); first | done | rfl | (simp only [List.length_drop, List.length_take]; rfl)) ?_; (with_reducible refine (spec_l1Cur_pick.calls g104 t101 t112 t113 4 t114 t115 t116 w _ ?side1 ?side2 A9.out).mono ?_); (case side1 => repeat (first | (with_reducible first | exact HI104.out | apply IsS82.alloc | apply IsS82.drewN | apply IsS82.drew | apply IsS82.set_1 | apply IsS82.set_2) | exact HI104.out)); (case side2 => repeat (first | (with_reducible first | exact HB.out | apply below_alloc | apply pw_below_drewN | apply below_drew1 | refine below_set ?_ (IsS82.ge HI104.out)) | exact HB.out)); rintro e w33 ⟨rfl, hi, hb, hk⟩; refine ⟨_, rfl, ?_⟩; have n0_ := Aside0.mk (Kd.R_mono (Kd.R_keep (IsS82.apart (show IsS82 w _ g104 t101 t112 t113 from by repeat (first | (with_reducible first | exact HI104.out | apply IsS82.alloc | apply IsS82.drewN | apply IsS82.drew | apply IsS82.set_1 | apply IsS82.set_2) | exact HI104.out)) (by (with_reducible repeat (first | apply Kd.R_alloc | apply Kd.R_drewN | apply Kd.R_drew)); exact HO110.out) (by decide)) hk (fun _ h => h.2)) (fun _ h => h.1)); have n1_ := Aside0.mk (hb); have n2_ := Aside0.mk (hi); clear HO110; clear HB; clear HI104; have HO110 := n0_; have HB := n1_; have HI104 := n2_; clear n0_ n1_ n2_; (try clear hb); (try clear hb2); (try clear hk); (try clear hi)))
              go_loopg [6, 9] k1 (fun kq v6 v9 w' => ∃ (x6_2 : ByteArray) (x9_2 : Int), v6 = .string x6_2 ∧ v9 = .int .i64 x9_2 ∧ Aside0 (spec_DrawLike.l1 kq (x5_1 ++ t111) x6_2 x7_1 t111 x9_2 t101 t115 t116 = some (r1, r2)) ∧ Aside0 (kq ≤ k1) ∧ Aside0 (IsS82 w w' g104 t101 t115 t116) ∧ Aside0 (Below w.heap.size w w'))
              case atStart => exact ⟨(x6_1), (0), (by first | rfl | (simp; done) | (simp [*]; done)), (by first | rfl | (simp; done) | (simp [*]; done)), H', ⟨Nat.le_refl _⟩, ⟨by repeat (first | (with_reducible first | exact HI104.out | apply IsS82.alloc | apply IsS82.drewN | apply IsS82.drew | apply IsS82.set_1 | apply IsS82.set_2) | exact HI104.out)⟩, ⟨by repeat (first | (with_reducible first | exact HB.out | apply below_alloc | apply pw_below_drewN | apply below_drew1 | refine below_set ?_ (IsS82.ge HI104.out)) | exact HB.out)⟩⟩
              case round =>
                clear H'
                try clear c1
                try clear c2
                try clear p2
                try clear c5
                try clear c6
                try clear c6b0
                try clear p6
                try clear c8
                try clear c8b0
                try clear c8b1
                try clear c8b2
                try clear c10
                try clear c10b0
                try clear c10b1
                try clear c11
                try clear c11b0
                try clear c11b1
                try clear c11b2
                try clear c17
                try clear c17b0
                try clear c17b1
                try clear c19
                try clear c19b0
                try clear c19b1
                try clear c19b2
                try clear c22
                try clear p2
                obtain ⟨x6_2, x9_2, rfl, rfl, HA, HK2, HI104, HB⟩ := hrel
                cases gk with
                | zero => exact absurd HA.out (by simp [spec_DrawLike.l1])
                | succ k2 =>
                  have H := HA.out
                  clear HA
                  simp only [spec_DrawLike.l1] at H
                  by_cases c34 : x9_2 < (t111.size : Int)
                  · rw [if_pos c34] at H
                    have c34b0 : decide (x9_2 < (t111.size : Int)) = true := decide_eq_true c34
                    clear c34
                    by_cases c35 : 0 ≤ x9_2
                    · rw [if_pos c35] at H
                      have c35b0 : decide (0 ≤ x9_2) = true := decide_eq_true c35
                      clear c35
                      by_cases c37 : (bt t111 x9_2) = 42
                      · rw [if_pos c37] at H
                        have c37b0 : ((bt t111 x9_2) == 42) = true := beq_iff_eq.mpr c37
                        have c37b1 : ((bt t111 x9_2) != 42) = false := bne_eq_false_iff_eq.mpr c37
                        clear c37
                        by_cases c38 : x6_2.size + 1 ≤ 9223372036854775807
                        · rw [if_pos c38] at H
                          have c38b0 := eq_true c38
                          have c38b1 : decide (x6_2.size + 1 ≤ 9223372036854775807) = true := decide_eq_true c38
                          try have c38b2 : (9223372036854775807 < x6_2.size + 1) = False := eq_false (Nat.not_lt.2 c38)
                          have c39b0 := eq_true (of_decide_eq_true (by first | (with_reducible assumption) | assumption) : 0 ≤ x9_2)
                          by_cases c40 : x9_2 ≤ (wrap64 (x9_2 + 1))
                          · rw [if_pos c40] at H
                            have c40b0 := eq_true c40
                            have c40b1 : decide (x9_2 ≤ (wrap64 (x9_2 + 1))) = true := decide_eq_true c40
                            by_cases c41 : (wrap64 (x9_2 + 1)) ≤ (t111.size : Int)
                            · rw [if_pos c41] at H
                              have c41b0 := eq_true c41
                              have c41b1 : decide ((wrap64 (x9_2 + 1)) ≤ (t111.size : Int)) = true := decide_eq_true c41
                              by_cases c42 : (x6_2 ++ (⟨#[92]⟩ : ByteArray)).size + (t111.extract (x9_2 : Int).toNat ((wrap64 (x9_2 + 1)) : Int).toNat).size ≤ 9223372036854775807
                              · rw [if_pos c42] at H
                                have c42b0 := eq_true c42
                                have c42b1 : decide ((x6_2 ++ (⟨#[92]⟩ : ByteArray)).size + (t111.extract (x9_2 : Int).toNat ((wrap64 (x9_2 + 1)) : Int).toNat).size ≤ 9223372036854775807) = true := decide_eq_true c42
                                try have c42b2 : (9223372036854775807 < (x6_2 ++ (⟨#[92]⟩ : ByteArray)).size + (t111.extract (x9_2 : Int).toNat ((wrap64 (x9_2 + 1)) : Int).toNat).size) = False := eq_false (Nat.not_lt.2 c42)
                                try (have c42b9 := c42b2; simp only [ByteArray.size_append, show (⟨#[92]⟩ : ByteArray).size = 1 from rfl] at c42b9)
                                have H' := Aside0.mk H
                                clear H
                                have p36 : 0 ≤ (x9_2 : Int) := of_decide_eq_true (by first | (with_reducible assumption) | assumption)
                                have q36 : x9_2 < (t111.size : Int) := of_decide_eq_true (by first | (with_reducible assumption) | assumption)
                                have hx36 := bt_at t111 x9_2
                                replace p36 := eq_true p36
                                replace q36 := eq_true q36
                                go_wp2
                                go_roundg k2
                                case measure => have := HK1.out; have := HK2.out; omega
                                case rel => exact ⟨((x6_2 ++ (⟨#[92]⟩ : ByteArray)) ++ (t111.extract (x9_2 : Int).toNat ((wrap64 (x9_2 + 1)) : Int).toNat)), (wrap64 (x9_2 + 1)), (by first | rfl | (simp; done) | (simp [*]; done)), (by first | rfl | (simp; done) | (simp [*]; done)), H', ⟨by have := HK1.out; have := HK2.out; omega⟩, ⟨by repeat (first | (with_reducible first | exact HI104.out | apply IsS82.alloc | apply IsS82.drewN | apply IsS82.drew | apply IsS82.set_1 | apply IsS82.set_2) | exact HI104.out)⟩, ⟨by repeat (first | (with_reducible first | exact HB.out | apply below_alloc | apply pw_below_drewN | apply below_drew1 | refine below_set ?_ (IsS82.ge HI104.out)) | exact HB.out)⟩⟩
                              · rw [if_neg c42] at H
                                exact absurd H (by simp)
                            · rw [if_neg c41] at H
                              exact absurd H (by simp)
                          · rw [if_neg c40] at H
                            exact absurd H (by simp)
                        · rw [if_neg c38] at H
                          exact absurd H (by simp)
                      · rw [if_neg c37] at H
                        have c37b0 : ((bt t111 x9_2) == 42) = false := beq_eq_false_iff_ne.mpr c37
                        have c37b1 : ((bt t111 x9_2) != 42) = true := bne_iff_ne.mpr c37
                        by_cases c44 : (bt t111 x9_2) = 92
                        · rw [if_pos c44] at H
                          have c44b0 : ((bt t111 x9_2) == 92) = true := beq_iff_eq.mpr c44
                          have c44b1 : ((bt t111 x9_2) != 92) = false := bne_eq_false_iff_eq.mpr c44
                          clear c44
                          by_cases c45 : x6_2.size + 1 ≤ 9223372036854775807
                          · rw [if_pos c45] at H
                            have c45b0 := eq_true c45
                            have c45b1 : decide (x6_2.size + 1 ≤ 9223372036854775807) = true := decide_eq_true c45
                            try have c45b2 : (9223372036854775807 < x6_2.size + 1) = False := eq_false (Nat.not_lt.2 c45)
                            have c46b0 := eq_true (of_decide_eq_true (by first | (with_reducible assumption) | assumption) : 0 ≤ x9_2)
                            by_cases c47 : x9_2 ≤ (wrap64 (x9_2 + 1))
                            · rw [if_pos c47] at H
                              have c47b0 := eq_true c47
                              have c47b1 : decide (x9_2 ≤ (wrap64 (x9_2 + 1))) = true := decide_eq_true c47
                              by_cases c48 : (wrap64 (x9_2 + 1)) ≤ (t111.size : Int)
                              · rw [if_pos c48] at H
                                have c48b0 := eq_true c48
                                have c48b1 : decide ((wrap64 (x9_2 + 1)) ≤ (t111.size : Int)) = true := decide_eq_true c48
                                by_cases c49 : (x6_2 ++ (⟨#[92]⟩ : ByteArray)).size + (t111.extract (x9_2 : Int).toNat ((wrap64 (x9_2 + 1)) : Int).toNat).size ≤ 9223372036854775807
                                · rw [if_pos c49] at H
                                  have c49b0 := eq_true c49
                                  have c49b1 : decide ((x6_2 ++ (⟨#[92]⟩ : ByteArray)).size + (t111.extract (x9_2 : Int).toNat ((wrap64 (x9_2 + 1)) : Int).toNat).size ≤ 9223372036854775807) = true := decide_eq_true c49
                                  try have c49b2 : (9223372036854775807 < (x6_2 ++ (⟨#[92]⟩ : ByteArray)).size + (t111.extract (x9_2 : Int).toNat ((wrap64 (x9_2 + 1)) : Int).toNat).size) = False := eq_false (Nat.not_lt.2 c49)
                                  try (have c49b9 := c49b2; simp only [ByteArray.size_append, show (⟨#[92]⟩ : ByteArray).size = 1 from rfl] at c49b9)
                                  have H' := Aside0.mk H
                                  clear H
                                  have p36 : 0 ≤ (x9_2 : Int) := of_decide_eq_true (by first | (with_reducible assumption) | assumption)
                                  have q36 : x9_2 < (t111.size : Int) := of_decide_eq_true (by first | (with_reducible assumption) | assumption)
                                  have hx36 := bt_at t111 x9_2
                                  replace p36 := eq_true p36
                                  replace q36 := eq_true q36
                                  have p43 : 0 ≤ (x9_2 : Int) := of_decide_eq_true (by first | (with_reducible assumption) | assumption)
                                  have q43 : x9_2 < (t111.size : Int) := of_decide_eq_true (by first | (with_reducible assumption) | assumption)
                                  have hx43 := bt_at t111 x9_2
                                  replace p43 := eq_true p43
                                  replace q43 := eq_true q43
                                  go_wp2
                                  go_roundg k2
                                  case measure => have := HK1.out; have := HK2.out; omega
                                  case rel => exact ⟨((x6_2 ++ (⟨#[92]⟩ : ByteArray)) ++ (t111.extract (x9_2 : Int).toNat ((wrap64 (x9_2 + 1)) : Int).toNat)), (wrap64 (x9_2 + 1)), (by first | rfl | (simp; done) | (simp [*]; done)), (by first | rfl | (simp; done) | (simp [*]; done)), H', ⟨by have := HK1.out; have := HK2.out; omega⟩, ⟨by repeat (first | (with_reducible first | exact HI104.out | apply IsS82.alloc | apply IsS82.drewN | apply IsS82.drew | apply IsS82.set_1 | apply IsS82.set_2) | exact HI104.out)⟩, ⟨by repeat (first | (with_reducible first | exact HB.out | apply below_alloc | apply pw_below_drewN | apply below_drew1 | refine below_set ?_ (IsS82.ge HI104.out)) | exact HB.out)⟩⟩
                                · rw [if_neg c49] at H
                                  exact absurd H (by simp)
                              · rw [if_neg c48] at H
                                exact absurd H (by simp)
                            · rw [if_neg c47] at H
                              exact absurd H (by simp)
                          · rw [if_neg c45] at H
                            exact absurd H (by simp)
                        · rw [if_neg c44] at H
                          have c44b0 : ((bt t111 x9_2) == 92) = false := beq_eq_false_iff_ne.mpr c44
                          have c44b1 : ((bt t111 x9_2) != 92) = true := bne_iff_ne.mpr c44
                          have c50b0 := eq_true (of_decide_eq_true (by first | (with_reducible assumption) | assumption) : 0 ≤ x9_2)
                          by_cases c51 : x9_2 ≤ (wrap64 (x9_2 + 1))
                          · rw [if_pos c51] at H
                            have c51b0 := eq_true c51
                            have c51b1 : decide (x9_2 ≤ (wrap64 (x9_2 + 1))) = true := decide_eq_true c51
                            by_cases c52 : (wrap64 (x9_2 + 1)) ≤ (t111.size : Int)
                            · rw [if_pos c52] at H
                              have c52b0 := eq_true c52
                              have c52b1 : decide ((wrap64 (x9_2 + 1)) ≤ (t111.size : Int)) = true := decide_eq_true c52
                              by_cases c53 : x6_2.size + (t111.extract (x9_2 : Int).toNat ((wrap64 (x9_2 + 1)) : Int).toNat).size ≤ 9223372036854775807
                              · rw [if_pos c53] at H
                                have c53b0 := eq_true c53
                                have c53b1 : decide (x6_2.size + (t111.extract (x9_2 : Int).toNat ((wrap64 (x9_2 + 1)) : Int).toNat).size ≤ 9223372036854775807) = true := decide_eq_true c53
                                try have c53b2 : (9223372036854775807 < x6_2.size + (t111.extract (x9_2 : Int).toNat ((wrap64 (x9_2 + 1)) : Int).toNat).size) = False := eq_false (Nat.not_lt.2 c53)
                                have H' := Aside0.mk H
                                clear H
                                have p36 : 0 ≤ (x9_2 : Int) := of_decide_eq_true (by first | (with_reducible assumption) | assumption)
                                have q36 : x9_2 < (t111.size : Int) := of_decide_eq_true (by first | (with_reducible assumption) | assumption)
                                have hx36 := bt_at t111 x9_2
                                replace p36 := eq_true p36
                                replace q36 := eq_true q36
                                have p43 : 0 ≤ (x9_2 : Int) := of_decide_eq_true (by first | (with_reducible assumption) | assumption)
                                have q43 : x9_2 < (t111.size : Int) := of_decide_eq_true (by first | (with_reducible assumption) | assumption)
                                have hx43 := bt_at t111 x9_2
                                replace p43 := eq_true p43
                                replace q43 := eq_true q43
                                go_wp2
                                go_roundg k2
                                case measure => have := HK1.out; have := HK2.out; omega
                                case rel => exact ⟨(x6_2 ++ (t111.extract (x9_2 : Int).toNat ((wrap64 (x9_2 + 1)) : Int).toNat)), (wrap64 (x9_2 + 1)), (by first | rfl | (simp; done) | (simp [*]; done)), (by first | rfl | (simp; done) | (simp [*]; done)), H', ⟨by have := HK1.out; have := HK2.out; omega⟩, ⟨by repeat (first | (with_reducible first | exact HI104.out | apply IsS82.alloc | apply IsS82.drewN | apply IsS82.drew | apply IsS82.set_1 | apply IsS82.set_2) | exact HI104.out)⟩, ⟨by repeat (first | (with_reducible first | exact HB.out | apply below_alloc | apply pw_below_drewN | apply below_drew1 | refine below_set ?_ (IsS82.ge HI104.out)) | exact HB.out)⟩⟩
                              · rw [if_neg c53] at H
                                exact absurd H (by simp)
                            · rw [if_neg c52] at H
                              exact absurd H (by simp)
                          · rw [if_neg c51] at H
                            exact absurd H (by simp)
                    · rw [if_neg c35] at H
                      exact absurd H (by simp)
                  · rw [if_neg c34] at H
                    have c34b0 : decide (x9_2 < (t111.size : Int)) = false := decide_eq_false c34
                    clear c34
                    have H' := Aside0.mk H
                    clear H
                    go_wp2
                    go_roundg k2
                    case measure => have := HK1.out; have := HK2.out; omega
                    case rel => exact ⟨((x5_1 ++ t111)), (x6_2), (wrap64 (x7_1 - 1)), (t115), (t116), (by first | rfl | (simp; done) | (simp [*]; done)), (by first | rfl | (simp; done) | (simp [*]; done)), (by first | rfl | (simp; done) | (simp [*]; done)), H', ⟨by have := HK1.out; have := HK2.out; omega⟩, ⟨by repeat (first | (with_reducible first | exact HI104.out | apply IsS82.alloc | apply IsS82.drewN | apply IsS82.drew | apply IsS82.set_1 | apply IsS82.set_2) | exact HI104.out)⟩, ⟨by repeat (first | (with_reducible first | exact HB.out | apply below_alloc | apply pw_below_drewN | apply below_drew1 | refine below_set ?_ (IsS82.ge HI104.out)) | exact HB.out)⟩⟩
        · rw [if_neg c8] at H
          exact absurd H (by simp)
      · rw [if_neg c6] at H
        have c6b0 : decide (0 < x7_1) = false := decide_eq_false c6
        clear c6
        simp only [Option.some.injEq, Prod.mk.injEq] at H
        obtain ⟨rfl, rfl⟩ := H
        go_wp2
        go_ret2
        exact ⟨by first | rfl | (simp [errW_none, errW_some] <;> rfl) | (simp [*, errW_none, errW_some] <;> rfl), by repeat (first | (with_reducible first | exact HB.out | apply below_alloc | apply pw_below_drewN | apply below_drew1 | refine below_set ?_ (IsS82.ge HI104.out)) | exact HB.out)⟩

end Go.Proofs.Ytccbjchlcelkgaa.Pr
