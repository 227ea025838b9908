/- Printed texts and walks that the law FnBlocks leans on, joined. -/
import Derived.Test.YtccbjchlcelkgaaFullFnBlocksB
import Derived.Test.YtccbjchlcelkgaaFullFnBlocksD
import Derived.Test.YtccbjchlcelkgaaFullFnBlocksE
import Derived.StillTailTactics
import Derived.Test.YtccbjchlcelkgaaFullFnBlocksC
-- Written by mkprint.py (a program of this repo, which drives the print.py of the kit): Lean checks it.
namespace Go.Proofs.Ytccbjchlcelkgaa.Pr
open Go.RowKit Go.Proofs.YtccbjchlcelkgaaW.PrintWords Go.Proofs.YtccbjchlcelkgaaW.PrintLast Go.Proofs.YtccbjchlcelkgaaW.PrintMore
attribute [local go_sem] max2_int min2_int max_two min_two max_three min_three max_four min_four   -- for this text's walks alone
set_option linter.unusedVariables false
set_option linter.unusedSimpArgs false

attribute [local go_sem high] eqA34
/-! ### laws_FnBlocks: function 5 -/
mutual
def laws_FnBlocks.j0 : Nat → List Int → List Int → Bool → Option (Bool)
  | 0, _, _, _ => none
  | k + 1, x0, x1, x16 => if x16 = true then (some true) else ((spec_DrawAddrIn.f k x0).bind fun bt101 => ((spec_DrawAddrIn.f k x1).bind fun bt111 => ((impl_AddrIn.f k bt101.1 bt101.2.1 bt101.2.2.1 bt101.2.2.2.1 bt101.2.2.2.2.1 bt101.2.2.2.2.2.1 bt101.2.2.2.2.2.2.1 bt101.2.2.2.2.2.2.2).bind fun t121 => ((spec_AddrIn.f k bt101.1 bt101.2.1 bt101.2.2.1 bt101.2.2.2.1 bt101.2.2.2.2.1 bt101.2.2.2.2.2.1 bt101.2.2.2.2.2.2.1 bt101.2.2.2.2.2.2.2).bind fun t122 => (if (t121 != t122) = true then (laws_FnBlocks.j1 k true bt101.1 bt101.2.1 bt101.2.2.1 bt101.2.2.2.1 bt101.2.2.2.2.1 bt101.2.2.2.2.2.1 bt101.2.2.2.2.2.2.1 bt101.2.2.2.2.2.2.2 bt111.1 bt111.2.1 bt111.2.2.1 bt111.2.2.2.1) else ((impl_AddrIn.f k bt101.1 bt101.2.1 bt101.2.2.1 bt101.2.2.2.1 bt101.1 bt101.2.1 bt101.2.2.1 bt101.2.2.2.1).bind fun t123 => ((spec_GoodAtom.f k bt101.1 bt101.2.1 bt101.2.2.1 bt101.2.2.2.1).bind fun t124 => (if t124 = true then (laws_FnBlocks.j1 k (t123 != (bt101.1 == 6)) bt101.1 bt101.2.1 bt101.2.2.1 bt101.2.2.2.1 bt101.2.2.2.2.1 bt101.2.2.2.2.2.1 bt101.2.2.2.2.2.2.1 bt101.2.2.2.2.2.2.2 bt111.1 bt111.2.1 bt111.2.2.1 bt111.2.2.2.1) else (laws_FnBlocks.j1 k (t123 != false) bt101.1 bt101.2.1 bt101.2.2.1 bt101.2.2.2.1 bt101.2.2.2.2.1 bt101.2.2.2.2.2.1 bt101.2.2.2.2.2.2.1 bt101.2.2.2.2.2.2.2 bt111.1 bt111.2.1 bt111.2.2.1 bt111.2.2.2.1)))))))))
def laws_FnBlocks.j1 : Nat → Bool → Int → Int → ByteArray → ByteArray → Int → Int → ByteArray → ByteArray → Int → Int → ByteArray → ByteArray → Option (Bool)
  | 0, _, _, _, _, _, _, _, _, _, _, _, _, _ => none
  | k + 1, x46, x110000, x110001, x110002, x110003, x111000, x111001, x111002, x111003, x120000, x120001, x120002, x120003 => if x46 = true then (none) else ((impl_AddrIn.f k x110000 x110001 x110002 x110003 x111000 x111001 x111002 x111003).bind fun t125 => (if t125 = true then ((impl_AddrIn.f k x111000 x111001 x111002 x111003 x110000 x110001 x110002 x110003).bind fun t126 => (if t126 = true then (laws_FnBlocks.j2 k (!(x110000 == x111000) || (!(x110001 == x111001) || (!(x110002.toList == x111002.toList) || (!(x110003.toList == x111003.toList))))) x110000 x110001 x110002 x110003 x111000 x111001 x111002 x111003 x120000 x120001 x120002 x120003) else (laws_FnBlocks.j2 k false x110000 x110001 x110002 x110003 x111000 x111001 x111002 x111003 x120000 x120001 x120002 x120003))) else (laws_FnBlocks.j2 k false x110000 x110001 x110002 x110003 x111000 x111001 x111002 x111003 x120000 x120001 x120002 x120003)))
def laws_FnBlocks.j2 : Nat → Bool → Int → Int → ByteArray → ByteArray → Int → Int → ByteArray → ByteArray → Int → Int → ByteArray → ByteArray → Option (Bool)
  | 0, _, _, _, _, _, _, _, _, _, _, _, _, _ => none
  | k + 1, x59, x110000, x110001, x110002, x110003, x111000, x111001, x111002, x111003, x120000, x120001, x120002, x120003 => if x59 = true then (none) else ((impl_AddrIn.f k x110000 x110001 x110002 x110003 x111000 x111001 x111002 x111003).bind fun t127 => (if t127 = true then ((impl_AddrIn.f k x111000 x111001 x111002 x111003 x120000 x120001 x120002 x120003).bind fun t128 => (if t128 = true then ((impl_AddrIn.f k x110000 x110001 x110002 x110003 x120000 x120001 x120002 x120003).bind fun t129 => (some t129)) else (some true))) else (some true)))
end
def laws_FnBlocks.f (k : Nat) (l0 : List Int) (l1 : List Int) : Option (Bool) := if (l0.length : Int) > 1048576 then (laws_FnBlocks.j0 k l0 l1 true) else (laws_FnBlocks.j0 k l0 l1 (decide ((l1.length : Int) > 1048576)))
theorem laws_FnBlocks.mono_l : ∀ k, (∀ y0 y1 y2, LeO (laws_FnBlocks.j0 k y0 y1 y2) (laws_FnBlocks.j0 (k + 1) y0 y1 y2)) ∧ (∀ y0 y1 y2 y3 y4 y5 y6 y7 y8 y9 y10 y11 y12, LeO (laws_FnBlocks.j1 k y0 y1 y2 y3 y4 y5 y6 y7 y8 y9 y10 y11 y12) (laws_FnBlocks.j1 (k + 1) y0 y1 y2 y3 y4 y5 y6 y7 y8 y9 y10 y11 y12)) ∧ (∀ y0 y1 y2 y3 y4 y5 y6 y7 y8 y9 y10 y11 y12, LeO (laws_FnBlocks.j2 k y0 y1 y2 y3 y4 y5 y6 y7 y8 y9 y10 y11 y12) (laws_FnBlocks.j2 (k + 1) y0 y1 y2 y3 y4 y5 y6 y7 y8 y9 y10 y11 y12))
  | 0 => ⟨fun _ _ _ r h => by simp [laws_FnBlocks.j0] at h, fun _ _ _ _ _ _ _ _ _ _ _ _ _ r h => by simp [laws_FnBlocks.j1] at h, fun _ _ _ _ _ _ _ _ _ _ _ _ _ r h => by simp [laws_FnBlocks.j2] at h⟩
  | k + 1 => by
    obtain ⟨ih0, ih1, ih2⟩ := laws_FnBlocks.mono_l k
    refine ⟨?_, ?_, ?_⟩
    · intro y0 y1 y2
      unfold laws_FnBlocks.j0
      repeat' first
      | (with_reducible exact ih0 _ _ _)
      | (with_reducible exact ih1 _ _ _ _ _ _ _ _ _ _ _ _ _)
      | (with_reducible exact ih2 _ _ _ _ _ _ _ _ _ _ _ _ _)
      | (with_reducible exact impl_AddrIn.mono _ _ _ _ _ _ _ _ _)
      | (with_reducible exact spec_AddrIn.mono _ _ _ _ _ _ _ _ _)
      | (with_reducible exact spec_DrawAddrIn.mono _ _)
      | (with_reducible exact spec_GoodAtom.mono _ _ _ _ _)
      | (with_reducible exact LeO.refl _)
      | (with_reducible exact LeO.none _)
      | (with_reducible refine LeO.ite ?_ ?_)
      | (with_reducible refine LeO.bind ?_ (fun _ => ?_))
      | exact ih0 _ _ _
      | exact ih1 _ _ _ _ _ _ _ _ _ _ _ _ _
      | exact ih2 _ _ _ _ _ _ _ _ _ _ _ _ _
      | exact impl_AddrIn.mono _ _ _ _ _ _ _ _ _
      | exact spec_AddrIn.mono _ _ _ _ _ _ _ _ _
      | exact spec_DrawAddrIn.mono _ _
      | exact spec_GoodAtom.mono _ _ _ _ _
      | exact LeO.none _
      | refine LeO.ite ?_ ?_
      | refine LeO.bind ?_ (fun _ => ?_)
    · intro y0 y1 y2 y3 y4 y5 y6 y7 y8 y9 y10 y11 y12
      unfold laws_FnBlocks.j1
      repeat' first
      | (with_reducible exact ih0 _ _ _)
      | (with_reducible exact ih1 _ _ _ _ _ _ _ _ _ _ _ _ _)
      | (with_reducible exact ih2 _ _ _ _ _ _ _ _ _ _ _ _ _)
      | (with_reducible exact impl_AddrIn.mono _ _ _ _ _ _ _ _ _)
      | (with_reducible exact spec_AddrIn.mono _ _ _ _ _ _ _ _ _)
      | (with_reducible exact spec_DrawAddrIn.mono _ _)
      | (with_reducible exact spec_GoodAtom.mono _ _ _ _ _)
      | (with_reducible exact LeO.refl _)
      | (with_reducible exact LeO.none _)
      | (with_reducible refine LeO.ite ?_ ?_)
      | (with_reducible refine LeO.bind ?_ (fun _ => ?_))
      | exact ih0 _ _ _
      | exact ih1 _ _ _ _ _ _ _ _ _ _ _ _ _
      | exact ih2 _ _ _ _ _ _ _ _ _ _ _ _ _
      | exact impl_AddrIn.mono _ _ _ _ _ _ _ _ _
      | exact spec_AddrIn.mono _ _ _ _ _ _ _ _ _
      | exact spec_DrawAddrIn.mono _ _
      | exact spec_GoodAtom.mono _ _ _ _ _
      | exact LeO.none _
      | refine LeO.ite ?_ ?_
      | refine LeO.bind ?_ (fun _ => ?_)
    · intro y0 y1 y2 y3 y4 y5 y6 y7 y8 y9 y10 y11 y12
      unfold laws_FnBlocks.j2
      repeat' first
      | (with_reducible exact ih0 _ _ _)
      | (with_reducible exact ih1 _ _ _ _ _ _ _ _ _ _ _ _ _)
      | (with_reducible exact ih2 _ _ _ _ _ _ _ _ _ _ _ _ _)
      | (with_reducible exact impl_AddrIn.mono _ _ _ _ _ _ _ _ _)
      | (with_reducible exact spec_AddrIn.mono _ _ _ _ _ _ _ _ _)
      | (with_reducible exact spec_DrawAddrIn.mono _ _)
      | (with_reducible exact spec_GoodAtom.mono _ _ _ _ _)
      | (with_reducible exact LeO.refl _)
      | (with_reducible exact LeO.none _)
      | (with_reducible refine LeO.ite ?_ ?_)
      | (with_reducible refine LeO.bind ?_ (fun _ => ?_))
      | exact ih0 _ _ _
      | exact ih1 _ _ _ _ _ _ _ _ _ _ _ _ _
      | exact ih2 _ _ _ _ _ _ _ _ _ _ _ _ _
      | exact impl_AddrIn.mono _ _ _ _ _ _ _ _ _
      | exact spec_AddrIn.mono _ _ _ _ _ _ _ _ _
      | exact spec_DrawAddrIn.mono _ _
      | exact spec_GoodAtom.mono _ _ _ _ _
      | exact LeO.none _
      | refine LeO.ite ?_ ?_
      | refine LeO.bind ?_ (fun _ => ?_)
theorem laws_FnBlocks.mono : ∀ a0 a1 k, LeO (laws_FnBlocks.f k a0 a1) (laws_FnBlocks.f (k + 1) a0 a1) := by
  intro a0 a1 k
  obtain ⟨ih0, ih1, ih2⟩ := laws_FnBlocks.mono_l k
  unfold laws_FnBlocks.f
  repeat' first
      | (with_reducible exact ih0 _ _ _)
      | (with_reducible exact ih1 _ _ _ _ _ _ _ _ _ _ _ _ _)
      | (with_reducible exact ih2 _ _ _ _ _ _ _ _ _ _ _ _ _)
      | (with_reducible exact impl_AddrIn.mono _ _ _ _ _ _ _ _ _)
      | (with_reducible exact spec_AddrIn.mono _ _ _ _ _ _ _ _ _)
      | (with_reducible exact spec_DrawAddrIn.mono _ _)
      | (with_reducible exact spec_GoodAtom.mono _ _ _ _ _)
      | (with_reducible exact LeO.refl _)
      | (with_reducible exact LeO.none _)
      | (with_reducible refine LeO.ite ?_ ?_)
      | (with_reducible refine LeO.bind ?_ (fun _ => ?_))
      | exact ih0 _ _ _
      | exact ih1 _ _ _ _ _ _ _ _ _ _ _ _ _
      | exact ih2 _ _ _ _ _ _ _ _ _ _ _ _ _
      | exact impl_AddrIn.mono _ _ _ _ _ _ _ _ _
      | exact spec_AddrIn.mono _ _ _ _ _ _ _ _ _
      | exact spec_DrawAddrIn.mono _ _
      | exact spec_GoodAtom.mono _ _ _ _ _
      | exact LeO.none _
      | refine LeO.ite ?_ ?_
      | refine LeO.bind ?_ (fun _ => ?_)
def laws_FnBlocks.T5 : Bool × List (List Nat × List Nat) := (true, [([], []), ([], []), ([0, 1], [0, 1]), ([], []), ([], []), ([3, 4, 2], [3, 4]), ([2, 5], [2, 5]), ([6, 5], [6]), ([7], [7]), ([7], [7]), ([8, 9, 7, 7], [7, 8, 9]), ([7], [7]), ([11, 10, 7], [7, 11]), ([12, 12, 7], [7, 12]), ([13], [13]), ([14, 13], [13, 14]), ([15, 13], [13, 15]), ([13, 16, 7], [7, 13, 16]), ([10, 17, 7], [7, 10, 17]), ([7, 18], [7, 18])])
def laws_FnBlocks.B5 : List Nat := [0, 0, 3, 0, 0, 31, 63, 127, 255, 255, 1023, 255, 4095, 8191, 16383, 32767, 65535, 131071, 262143, 524287]
theorem laws_FnBlocks.tab5 : rtab .any (opsOf Try.f5 5) = laws_FnBlocks.T5 := by kernel_rfl
theorem laws_FnBlocks.bits5 : waitsOk laws_FnBlocks.T5.2 laws_FnBlocks.B5 = true := by kernel_rfl
set_option maxHeartbeats 8000000 in
set_option maxRecDepth 100000 in
theorem laws_FnBlocks.calls (k : Nat) (A0 : Option Addr) (c0 : Nat) (l0 : List Int) (A1 : Option Addr) (c1 : Nat) (l1 : List Int) (r : Bool) (w : World) (hr0 : Kd.C (Kd.int .u8) w A0 l0.length l0) (hc0 : l0.length ≤ c0) (hr1 : Kd.C (Kd.int .u8) w A1 l1.length l1) (hc1 : l1.length ≤ c1) (h : laws_FnBlocks.f k l0 l1 = some r) :
    Calls Try.prog 5 #[.slice A0 l0.length c0, .slice A1 l1.length c1] w fun e w' => e = .returned (.bool r) ∧ Below w.heap.size w w' := by
  have hu34 := Try.underlying34
  have HR0 := Aside0.mk hr0
  have HC0 := Aside0.mk hc0
  clear hr0 hc0
  have HR1 := Aside0.mk hr1
  have HC1 := Aside0.mk hc1
  clear hr1 hc1
  have HB := Aside0.mk (Below.refl w.heap.size w)
  have H : (if (l0.length : Int) > 1048576 then (laws_FnBlocks.j0 k l0 l1 true) else (laws_FnBlocks.j0 k l0 l1 (decide ((l1.length : Int) > 1048576)))) = some r := h
  clear h
  have HC3 := Aside0.mk H
  clear H
  go_enter Try.func5, Try.ntmps5
  go_upto_region 1 with (fail)
  go_cut [16] (fun v16 wc => ∃ (kq : Nat) (x16_2 : Bool), v16 = .bool x16_2 ∧ Aside0 (laws_FnBlocks.j0 kq l0 l1 x16_2 = some r) ∧ Aside0 (kq ≤ k) ∧ Aside0 (Below w.heap.size w wc))
  case first =>
    have H := HC3.out
    clear HC3
    by_cases c4 : (l0.length : Int) > 1048576
    · rw [if_pos c4] at H
      have c4b0 : decide (1048576 < (l0.length : Int)) = true := decide_eq_true c4
      have c4b1 : decide (1048576 < l0.length) = true := decide_eq_true (by omega)
      clear c4
      (first | rw [c4b0] | (simp only [i64_w, i32_w]; rw [c4b0]) | skip)
      have H' := Aside0.mk H
      clear H
      go_wp2
      go_meet
      case rel => exact ⟨_, (true), (by first | rfl | (simp; done) | (simp [*]; done)), H', ⟨by first | omega | exact Nat.le_refl _⟩, ⟨by repeat (first | (with_reducible first | exact HB.out | apply below_alloc | apply pw_below_drewN | apply below_drew1) | exact HB.out)⟩⟩
    · rw [if_neg c4] at H
      have c4b0 : decide (1048576 < (l0.length : Int)) = false := decide_eq_false c4
      have c4b1 : decide (1048576 < l0.length) = false := decide_eq_false (by omega)
      clear c4
      (first | rw [c4b0] | (simp only [i64_w, i32_w]; rw [c4b0]) | skip)
      have H' := Aside0.mk H
      clear H
      go_wp2
      go_meet
      case rel => exact ⟨_, (decide ((l1.length : Int) > 1048576)), (by first | rfl | (simp; done) | (simp [*]; done)), H', ⟨by first | omega | exact Nat.le_refl _⟩, ⟨by repeat (first | (with_reducible first | exact HB.out | apply below_alloc | apply pw_below_drewN | apply below_drew1) | exact HB.out)⟩⟩
  case rest =>
    clear HC3
    try clear c1
    try clear p2
    try clear c4
    try clear c4b0
    try clear c4b1
    obtain ⟨kq, x16_2, rfl, HA, HJ2, HB⟩ := hcut
    cases kq with
    | zero => exact absurd HA.out (by simp [laws_FnBlocks.j0])
    | succ kj2 =>
      have H := HA.out
      clear HA
      simp only [laws_FnBlocks.j0] at H
      by_cases c5 : x16_2 = true
      · subst c5
        have H1 : (some true) = some r := by rw [if_pos rfl] at H; exact H
        clear H
        have H := H1
        clear H1
        obtain rfl := Option.some.inj H
        go_wp2
        go_ret
        exact ⟨by first | rfl | (simp [errW_none, errW_some] <;> rfl) | (simp [*, errW_none, errW_some] <;> rfl), by repeat (first | (with_reducible first | exact HB.out | apply below_alloc | apply pw_below_drewN | apply below_drew1) | exact HB.out)⟩
      · replace c5 := Bool.eq_false_iff.mpr c5
        subst c5
        have H1 : ((spec_DrawAddrIn.f kj2 l0).bind fun bt101 => ((spec_DrawAddrIn.f kj2 l1).bind fun bt111 => ((impl_AddrIn.f kj2 bt101.1 bt101.2.1 bt101.2.2.1 bt101.2.2.2.1 bt101.2.2.2.2.1 bt101.2.2.2.2.2.1 bt101.2.2.2.2.2.2.1 bt101.2.2.2.2.2.2.2).bind fun t121 => ((spec_AddrIn.f kj2 bt101.1 bt101.2.1 bt101.2.2.1 bt101.2.2.2.1 bt101.2.2.2.2.1 bt101.2.2.2.2.2.1 bt101.2.2.2.2.2.2.1 bt101.2.2.2.2.2.2.2).bind fun t122 => (if (t121 != t122) = true then (laws_FnBlocks.j1 kj2 true bt101.1 bt101.2.1 bt101.2.2.1 bt101.2.2.2.1 bt101.2.2.2.2.1 bt101.2.2.2.2.2.1 bt101.2.2.2.2.2.2.1 bt101.2.2.2.2.2.2.2 bt111.1 bt111.2.1 bt111.2.2.1 bt111.2.2.2.1) else ((impl_AddrIn.f kj2 bt101.1 bt101.2.1 bt101.2.2.1 bt101.2.2.2.1 bt101.1 bt101.2.1 bt101.2.2.1 bt101.2.2.2.1).bind fun t123 => ((spec_GoodAtom.f kj2 bt101.1 bt101.2.1 bt101.2.2.1 bt101.2.2.2.1).bind fun t124 => (if t124 = true then (laws_FnBlocks.j1 kj2 (t123 != (bt101.1 == 6)) bt101.1 bt101.2.1 bt101.2.2.1 bt101.2.2.2.1 bt101.2.2.2.2.1 bt101.2.2.2.2.2.1 bt101.2.2.2.2.2.2.1 bt101.2.2.2.2.2.2.2 bt111.1 bt111.2.1 bt111.2.2.1 bt111.2.2.2.1) else (laws_FnBlocks.j1 kj2 (t123 != false) bt101.1 bt101.2.1 bt101.2.2.1 bt101.2.2.2.1 bt101.2.2.2.2.1 bt101.2.2.2.2.2.1 bt101.2.2.2.2.2.2.1 bt101.2.2.2.2.2.2.2 bt111.1 bt111.2.1 bt111.2.2.1 bt111.2.2.2.1))))))))) = some r := by rw [if_neg (show ¬ (false = true) by decide)] at H; exact H
        clear H
        have H := H1
        clear H1
        replace H := Option.bind_eq_some_iff.mp H
        obtain ⟨⟨t101, t102, t103, t104, t105, t106, t107, t108⟩, A60, H⟩ := H
        replace H : ((spec_DrawAddrIn.f kj2 l1).bind fun bt111 => ((impl_AddrIn.f kj2 t101 t102 t103 t104 t105 t106 t107 t108).bind fun t121 => ((spec_AddrIn.f kj2 t101 t102 t103 t104 t105 t106 t107 t108).bind fun t122 => (if (t121 != t122) = true then (laws_FnBlocks.j1 kj2 true t101 t102 t103 t104 t105 t106 t107 t108 bt111.1 bt111.2.1 bt111.2.2.1 bt111.2.2.2.1) else ((impl_AddrIn.f kj2 t101 t102 t103 t104 t101 t102 t103 t104).bind fun t123 => ((spec_GoodAtom.f kj2 t101 t102 t103 t104).bind fun t124 => (if t124 = true then (laws_FnBlocks.j1 kj2 (t123 != (t101 == 6)) t101 t102 t103 t104 t105 t106 t107 t108 bt111.1 bt111.2.1 bt111.2.2.1 bt111.2.2.2.1) else (laws_FnBlocks.j1 kj2 (t123 != false) t101 t102 t103 t104 t105 t106 t107 t108 bt111.1 bt111.2.1 bt111.2.2.1 bt111.2.2.2.1)))))))) = some r := H
        have A6 := Aside0.mk A60
        clear A60
        replace H := Option.bind_eq_some_iff.mp H
        obtain ⟨⟨t111, t112, t113, t114, t115, t116, t117, t118⟩, A70, H⟩ := H
        replace H : ((impl_AddrIn.f kj2 t101 t102 t103 t104 t105 t106 t107 t108).bind fun t121 => ((spec_AddrIn.f kj2 t101 t102 t103 t104 t105 t106 t107 t108).bind fun t122 => (if (t121 != t122) = true then (laws_FnBlocks.j1 kj2 true t101 t102 t103 t104 t105 t106 t107 t108 t111 t112 t113 t114) else ((impl_AddrIn.f kj2 t101 t102 t103 t104 t101 t102 t103 t104).bind fun t123 => ((spec_GoodAtom.f kj2 t101 t102 t103 t104).bind fun t124 => (if t124 = true then (laws_FnBlocks.j1 kj2 (t123 != (t101 == 6)) t101 t102 t103 t104 t105 t106 t107 t108 t111 t112 t113 t114) else (laws_FnBlocks.j1 kj2 (t123 != false) t101 t102 t103 t104 t105 t106 t107 t108 t111 t112 t113 t114))))))) = some r := H
        have A7 := Aside0.mk A70
        clear A70
        have HC8 := Aside0.mk H
        clear H
        go_upto_region 5 with (first | ((with_reducible refine gate_callee (f := 22) rfl ?_); refine goesL_ (some 19) rfl rfl Try.func22 (by kernel_rfl) rfl #[.slice A0 l0.length c0] rfl (by (try simp only [List.map_toArray, List.map_cons, List.map_nil]); first | done | rfl | (simp only [List.length_drop, List.length_take]; rfl)) ?_; (with_reducible refine (spec_DrawAddrIn.calls kj2 _ _ l0 t101 t102 t103 t104 t105 t106 t107 t108 _ ?side1 ?side2 A6.out).mono ?_); (case side1 => repeat (first | exact (Kd.C_below HR0.out HB.out) | (with_reducible refine Kd.C_alloc ?_ _) | (with_reducible refine Kd.C_drewN ?_ _) | (with_reducible refine Kd.C_drew ?_))); (case side2 => exact HC0.out); rintro e w9 ⟨rfl, hb⟩; refine ⟨_, rfl, ?_⟩; have n0_ := Aside0.mk (below_step (by repeat (first | (with_reducible first | exact HB.out | apply below_alloc | apply pw_below_drewN | apply below_drew1) | exact HB.out)) hb); clear HB; have HB := n0_; clear n0_; (try clear hb); (try clear hb2); (try clear hk); (try clear hi)) | ((with_reducible refine gate_dst (N := 5) rfl ?_); (try (refine gate_guard (by rfl) ?_; dsimp only)); refine box_event ?hg (N := 5) ?hd (cs := #[.int .i64 0, .int .i64 0, .string (⟨#[]⟩ : ByteArray), .string (⟨#[]⟩ : ByteArray)]) (t := 34) ?hr ?_; (case hd => rfl); (case hg => rfl); (case hr => first | (go_simp; done) | (go_simp; rfl)); intro gb109 hg w10 hbox hb; have n0_ := Aside0.mk (below_step (by repeat (first | (with_reducible first | exact HB.out | apply below_alloc | apply pw_below_drewN | apply below_drew1) | exact HB.out)) hb); have n1_ := Aside0.mk (hbox); have n2_ := Aside0.mk ((by rw [hg]; exact (below_size (by repeat (first | (with_reducible first | exact HB.out | apply below_alloc | apply pw_below_drewN | apply below_drew1) | exact HB.out))) : w.heap.size ≤ gb109)); have n3_ := Aside0.mk ((by rw [hg]; exact (below_size (by repeat (first | (with_reducible first | exact HB.out | apply below_alloc | apply pw_below_drewN | apply below_drew1) | exact HB.out))) : w.heap.size ≤ gb109)); clear HB; have HB := n0_; have BK109 := n1_; have GW109 := n2_; have GE109 := n3_; clear n0_ n1_ n2_ n3_; clear hb hbox hg) | ((with_reducible refine gate_dst (N := 6) rfl ?_); (try (refine gate_guard (by rfl) ?_; dsimp only)); refine box_event ?hg (N := 6) ?hd (cs := #[.int .i64 0, .int .i64 0, .string (⟨#[]⟩ : ByteArray), .string (⟨#[]⟩ : ByteArray)]) (t := 34) ?hr ?_; (case hd => rfl); (case hg => rfl); (case hr => first | (go_simp; done) | (go_simp; rfl)); intro gb110 hg w11 hbox hb; have n0_ := Aside0.mk (blk_below (g := gb109) (o := .cells #[.int .i64 0, .int .i64 0, .string (⟨#[]⟩ : ByteArray), .string (⟨#[]⟩ : ByteArray)] 34 (0, 0)) (by (with_reducible repeat (first | refine blk_drewN ?_ _ | refine blk_drew ?_ | refine blk_alloc ?_ _)); exact BK109.out) hb); have n1_ := Aside0.mk (below_step (by repeat (first | (with_reducible first | exact HB.out | apply below_alloc | apply pw_below_drewN | apply below_drew1 | refine below_set ?_ GE109.out) | exact HB.out)) hb); have n2_ := Aside0.mk (hbox); have n3_ := Aside0.mk ((by rw [hg]; exact (below_size (by repeat (first | (with_reducible first | exact HB.out | apply below_alloc | apply pw_below_drewN | apply below_drew1 | refine below_set ?_ GE109.out) | exact HB.out))) : w.heap.size ≤ gb110)); have n4_ := Aside0.mk ((by rw [hg]; exact (below_size (by repeat (first | (with_reducible first | exact HB.out | apply below_alloc | apply pw_below_drewN | apply below_drew1 | refine below_set ?_ GE109.out) | exact HB.out))) : w.heap.size ≤ gb110)); have n5_ := Aside0.mk ((by rw [hg]; exact Nat.ne_of_lt (blk_lt (g := gb109) (o := .cells #[.int .i64 0, .int .i64 0, .string (⟨#[]⟩ : ByteArray), .string (⟨#[]⟩ : ByteArray)] 34 (0, 0)) (by (with_reducible repeat (first | refine blk_drewN ?_ _ | refine blk_drew ?_ | refine blk_alloc ?_ _)); exact BK109.out)) : gb109 ≠ gb110)); have n6_ := Aside0.mk ((by rw [hg]; exact Nat.ne_of_gt (blk_lt (g := gb109) (o := .cells #[.int .i64 0, .int .i64 0, .string (⟨#[]⟩ : ByteArray), .string (⟨#[]⟩ : ByteArray)] 34 (0, 0)) (by (with_reducible repeat (first | refine blk_drewN ?_ _ | refine blk_drew ?_ | refine blk_alloc ?_ _)); exact BK109.out)) : gb110 ≠ gb109)); clear BK109; clear HB; have BK109 := n0_; have HB := n1_; have BK110 := n2_; have GW110 := n3_; have GE110 := n4_; have NB109_110 := n5_; have NB110_109 := n6_; clear n0_ n1_ n2_ n3_ n4_ n5_ n6_; clear hb hbox hg; have hnb12 := NB109_110.out; have hnc12 := NB110_109.out; have hcz13_0 : w11.cell? ⟨gb109, 0, none⟩ = some (.int .i64 0) := (blk_cell BK109.out 0).trans rfl; have hcz13_1 : w11.cell? ⟨gb109, 1, none⟩ = some (.int .i64 0) := (blk_cell BK109.out 1).trans rfl; have hcz13_2 : w11.cell? ⟨gb109, 2, none⟩ = some (.string (⟨#[]⟩ : ByteArray)) := (blk_cell BK109.out 2).trans rfl; have hcz13_3 : w11.cell? ⟨gb109, 3, none⟩ = some (.string (⟨#[]⟩ : ByteArray)) := (blk_cell BK109.out 3).trans rfl; have hfz13_0 := blk_frozen BK109.out 0; have hfz13_1 := blk_frozen BK109.out 1; have hfz13_2 := blk_frozen BK109.out 2; have hfz13_3 := blk_frozen BK109.out 3; have hcz14_0 : w11.cell? ⟨gb110, 0, none⟩ = some (.int .i64 0) := (blk_cell BK110.out 0).trans rfl; have hcz14_1 : w11.cell? ⟨gb110, 1, none⟩ = some (.int .i64 0) := (blk_cell BK110.out 1).trans rfl; have hcz14_2 : w11.cell? ⟨gb110, 2, none⟩ = some (.string (⟨#[]⟩ : ByteArray)) := (blk_cell BK110.out 2).trans rfl; have hcz14_3 : w11.cell? ⟨gb110, 3, none⟩ = some (.string (⟨#[]⟩ : ByteArray)) := (blk_cell BK110.out 3).trans rfl; have hfz14_0 := blk_frozen BK110.out 0; have hfz14_1 := blk_frozen BK110.out 1; have hfz14_2 := blk_frozen BK110.out 2; have hfz14_3 := blk_frozen BK110.out 3) | ((with_reducible refine gate_callee (f := 22) rfl ?_); refine goesL_ (some 24) rfl rfl Try.func22 (by kernel_rfl) rfl #[.slice A1 l1.length c1] rfl (by (try simp only [List.map_toArray, List.map_cons, List.map_nil]); first | done | rfl | (simp only [List.length_drop, List.length_take]; rfl)) ?_; (with_reducible refine (spec_DrawAddrIn.calls kj2 _ _ l1 t111 t112 t113 t114 t115 t116 t117 t118 _ ?side1 ?side2 A7.out).mono ?_); (case side1 => exact Kd.C_below HR1.out (by repeat (first | (with_reducible first | exact HB.out | apply below_alloc | apply pw_below_drewN | apply below_drew1 | refine below_set ?_ GE109.out | refine below_set ?_ GE110.out) | exact HB.out))); (case side2 => exact HC1.out); rintro e w15 ⟨rfl, hb⟩; refine ⟨_, rfl, ?_⟩; have n0_ := Aside0.mk (blk_below (g := gb109) (o := .cells #[.int .i64 t101, .int .i64 t102, .string t103, .string t104] 34 (0, 0)) (by (with_reducible repeat (first | refine blk_drewN ?_ _ | refine blk_drew ?_ | refine blk_alloc ?_ _)); refine blk_far ?_ NB109_110.out _; (with_reducible repeat (first | refine blk_drewN ?_ _ | refine blk_drew ?_ | refine blk_alloc ?_ _)); refine blk_far ?_ NB109_110.out _; (with_reducible repeat (first | refine blk_drewN ?_ _ | refine blk_drew ?_ | refine blk_alloc ?_ _)); refine blk_far ?_ NB109_110.out _; (with_reducible repeat (first | refine blk_drewN ?_ _ | refine blk_drew ?_ | refine blk_alloc ?_ _)); refine blk_far ?_ NB109_110.out _; (with_reducible repeat (first | refine blk_drewN ?_ _ | refine blk_drew ?_ | refine blk_alloc ?_ _)); refine blk_put (cs := #[.int .i64 t101, .int .i64 t102, .string t103, .string (⟨#[]⟩ : ByteArray)]) ?_ 3 _ rfl; (with_reducible repeat (first | refine blk_drewN ?_ _ | refine blk_drew ?_ | refine blk_alloc ?_ _)); refine blk_put (cs := #[.int .i64 t101, .int .i64 t102, .string (⟨#[]⟩ : ByteArray), .string (⟨#[]⟩ : ByteArray)]) ?_ 2 _ rfl; (with_reducible repeat (first | refine blk_drewN ?_ _ | refine blk_drew ?_ | refine blk_alloc ?_ _)); refine blk_put (cs := #[.int .i64 t101, .int .i64 0, .string (⟨#[]⟩ : ByteArray), .string (⟨#[]⟩ : ByteArray)]) ?_ 1 _ rfl; (with_reducible repeat (first | refine blk_drewN ?_ _ | refine blk_drew ?_ | refine blk_alloc ?_ _)); refine blk_put (cs := #[.int .i64 0, .int .i64 0, .string (⟨#[]⟩ : ByteArray), .string (⟨#[]⟩ : ByteArray)]) ?_ 0 _ rfl; (with_reducible repeat (first | refine blk_drewN ?_ _ | refine blk_drew ?_ | refine blk_alloc ?_ _)); exact BK109.out) hb); have n1_ := Aside0.mk (blk_below (g := gb110) (o := .cells #[.int .i64 t105, .int .i64 t106, .string t107, .string t108] 34 (0, 0)) (by (with_reducible repeat (first | refine blk_drewN ?_ _ | refine blk_drew ?_ | refine blk_alloc ?_ _)); refine blk_put (cs := #[.int .i64 t105, .int .i64 t106, .string t107, .string (⟨#[]⟩ : ByteArray)]) ?_ 3 _ rfl; (with_reducible repeat (first | refine blk_drewN ?_ _ | refine blk_drew ?_ | refine blk_alloc ?_ _)); refine blk_put (cs := #[.int .i64 t105, .int .i64 t106, .string (⟨#[]⟩ : ByteArray), .string (⟨#[]⟩ : ByteArray)]) ?_ 2 _ rfl; (with_reducible repeat (first | refine blk_drewN ?_ _ | refine blk_drew ?_ | refine blk_alloc ?_ _)); refine blk_put (cs := #[.int .i64 t105, .int .i64 0, .string (⟨#[]⟩ : ByteArray), .string (⟨#[]⟩ : ByteArray)]) ?_ 1 _ rfl; (with_reducible repeat (first | refine blk_drewN ?_ _ | refine blk_drew ?_ | refine blk_alloc ?_ _)); refine blk_put (cs := #[.int .i64 0, .int .i64 0, .string (⟨#[]⟩ : ByteArray), .string (⟨#[]⟩ : ByteArray)]) ?_ 0 _ rfl; (with_reducible repeat (first | refine blk_drewN ?_ _ | refine blk_drew ?_ | refine blk_alloc ?_ _)); refine blk_far ?_ NB110_109.out _; (with_reducible repeat (first | refine blk_drewN ?_ _ | refine blk_drew ?_ | refine blk_alloc ?_ _)); refine blk_far ?_ NB110_109.out _; (with_reducible repeat (first | refine blk_drewN ?_ _ | refine blk_drew ?_ | refine blk_alloc ?_ _)); refine blk_far ?_ NB110_109.out _; (with_reducible repeat (first | refine blk_drewN ?_ _ | refine blk_drew ?_ | refine blk_alloc ?_ _)); refine blk_far ?_ NB110_109.out _; (with_reducible repeat (first | refine blk_drewN ?_ _ | refine blk_drew ?_ | refine blk_alloc ?_ _)); exact BK110.out) hb); have n2_ := Aside0.mk (below_step (by repeat (first | (with_reducible first | exact HB.out | apply below_alloc | apply pw_below_drewN | apply below_drew1 | refine below_set ?_ GE109.out | refine below_set ?_ GE110.out) | exact HB.out)) hb); clear BK109; clear BK110; clear HB; have BK109 := n0_; have BK110 := n1_; have HB := n2_; clear n0_ n1_ n2_; (try clear hb); (try clear hb2); (try clear hk); (try clear hi)) | ((with_reducible refine gate_dst (N := 7) rfl ?_); (try (refine gate_guard (by rfl) ?_; dsimp only)); refine box_event ?hg (N := 7) ?hd (cs := #[.int .i64 0, .int .i64 0, .string (⟨#[]⟩ : ByteArray), .string (⟨#[]⟩ : ByteArray)]) (t := 34) ?hr ?_; (case hd => rfl); (case hg => rfl); (case hr => first | (go_simp; done) | (go_simp; rfl)); intro gb119 hg w16 hbox hb; have n0_ := Aside0.mk (blk_below (g := gb109) (o := .cells #[.int .i64 t101, .int .i64 t102, .string t103, .string t104] 34 (0, 0)) (by (with_reducible repeat (first | refine blk_drewN ?_ _ | refine blk_drew ?_ | refine blk_alloc ?_ _)); exact BK109.out) hb); have n1_ := Aside0.mk (blk_below (g := gb110) (o := .cells #[.int .i64 t105, .int .i64 t106, .string t107, .string t108] 34 (0, 0)) (by (with_reducible repeat (first | refine blk_drewN ?_ _ | refine blk_drew ?_ | refine blk_alloc ?_ _)); exact BK110.out) hb); have n2_ := Aside0.mk (below_step (by repeat (first | (with_reducible first | exact HB.out | apply below_alloc | apply pw_below_drewN | apply below_drew1 | refine below_set ?_ GE109.out | refine below_set ?_ GE110.out) | exact HB.out)) hb); have n3_ := Aside0.mk (hbox); have n4_ := Aside0.mk ((by rw [hg]; exact (below_size (by repeat (first | (with_reducible first | exact HB.out | apply below_alloc | apply pw_below_drewN | apply below_drew1 | refine below_set ?_ GE109.out | refine below_set ?_ GE110.out) | exact HB.out))) : w.heap.size ≤ gb119)); have n5_ := Aside0.mk ((by rw [hg]; exact (below_size (by repeat (first | (with_reducible first | exact HB.out | apply below_alloc | apply pw_below_drewN | apply below_drew1 | refine below_set ?_ GE109.out | refine below_set ?_ GE110.out) | exact HB.out))) : w.heap.size ≤ gb119)); have n6_ := Aside0.mk ((by rw [hg]; exact Nat.ne_of_lt (blk_lt (g := gb109) (o := .cells #[.int .i64 t101, .int .i64 t102, .string t103, .string t104] 34 (0, 0)) (by (with_reducible repeat (first | refine blk_drewN ?_ _ | refine blk_drew ?_ | refine blk_alloc ?_ _)); exact BK109.out)) : gb109 ≠ gb119)); have n7_ := Aside0.mk ((by rw [hg]; exact Nat.ne_of_gt (blk_lt (g := gb109) (o := .cells #[.int .i64 t101, .int .i64 t102, .string t103, .string t104] 34 (0, 0)) (by (with_reducible repeat (first | refine blk_drewN ?_ _ | refine blk_drew ?_ | refine blk_alloc ?_ _)); exact BK109.out)) : gb119 ≠ gb109)); have n8_ := Aside0.mk ((by rw [hg]; exact Nat.ne_of_lt (blk_lt (g := gb110) (o := .cells #[.int .i64 t105, .int .i64 t106, .string t107, .string t108] 34 (0, 0)) (by (with_reducible repeat (first | refine blk_drewN ?_ _ | refine blk_drew ?_ | refine blk_alloc ?_ _)); exact BK110.out)) : gb110 ≠ gb119)); have n9_ := Aside0.mk ((by rw [hg]; exact Nat.ne_of_gt (blk_lt (g := gb110) (o := .cells #[.int .i64 t105, .int .i64 t106, .string t107, .string t108] 34 (0, 0)) (by (with_reducible repeat (first | refine blk_drewN ?_ _ | refine blk_drew ?_ | refine blk_alloc ?_ _)); exact BK110.out)) : gb119 ≠ gb110)); clear BK109; clear BK110; clear HB; have BK109 := n0_; have BK110 := n1_; have HB := n2_; have BK119 := n3_; have GW119 := n4_; have GE119 := n5_; have NB109_119 := n6_; have NB119_109 := n7_; have NB110_119 := n8_; have NB119_110 := n9_; clear n0_ n1_ n2_ n3_ n4_ n5_ n6_ n7_ n8_ n9_; clear hb hbox hg) | ((with_reducible refine gate_dst (N := 8) rfl ?_); (try (refine gate_guard (by rfl) ?_; dsimp only)); refine box_event ?hg (N := 8) ?hd (cs := #[.int .i64 0, .int .i64 0, .string (⟨#[]⟩ : ByteArray), .string (⟨#[]⟩ : ByteArray)]) (t := 34) ?hr ?_; (case hd => rfl); (case hg => rfl); (case hr => first | (go_simp; done) | (go_simp; rfl)); intro gb120 hg w17 hbox hb; have n0_ := Aside0.mk (blk_below (g := gb109) (o := .cells #[.int .i64 t101, .int .i64 t102, .string t103, .string t104] 34 (0, 0)) (by (with_reducible repeat (first | refine blk_drewN ?_ _ | refine blk_drew ?_ | refine blk_alloc ?_ _)); exact BK109.out) hb); have n1_ := Aside0.mk (blk_below (g := gb110) (o := .cells #[.int .i64 t105, .int .i64 t106, .string t107, .string t108] 34 (0, 0)) (by (with_reducible repeat (first | refine blk_drewN ?_ _ | refine blk_drew ?_ | refine blk_alloc ?_ _)); exact BK110.out) hb); have n2_ := Aside0.mk (blk_below (g := gb119) (o := .cells #[.int .i64 0, .int .i64 0, .string (⟨#[]⟩ : ByteArray), .string (⟨#[]⟩ : ByteArray)] 34 (0, 0)) (by (with_reducible repeat (first | refine blk_drewN ?_ _ | refine blk_drew ?_ | refine blk_alloc ?_ _)); exact BK119.out) hb); have n3_ := Aside0.mk (below_step (by repeat (first | (with_reducible first | exact HB.out | apply below_alloc | apply pw_below_drewN | apply below_drew1 | refine below_set ?_ GE109.out | refine below_set ?_ GE110.out | refine below_set ?_ GE119.out) | exact HB.out)) hb); have n4_ := Aside0.mk (hbox); have n5_ := Aside0.mk ((by rw [hg]; exact (below_size (by repeat (first | (with_reducible first | exact HB.out | apply below_alloc | apply pw_below_drewN | apply below_drew1 | refine below_set ?_ GE109.out | refine below_set ?_ GE110.out | refine below_set ?_ GE119.out) | exact HB.out))) : w.heap.size ≤ gb120)); have n6_ := Aside0.mk ((by rw [hg]; exact (below_size (by repeat (first | (with_reducible first | exact HB.out | apply below_alloc | apply pw_below_drewN | apply below_drew1 | refine below_set ?_ GE109.out | refine below_set ?_ GE110.out | refine below_set ?_ GE119.out) | exact HB.out))) : w.heap.size ≤ gb120)); have n7_ := Aside0.mk ((by rw [hg]; exact Nat.ne_of_lt (blk_lt (g := gb109) (o := .cells #[.int .i64 t101, .int .i64 t102, .string t103, .string t104] 34 (0, 0)) (by (with_reducible repeat (first | refine blk_drewN ?_ _ | refine blk_drew ?_ | refine blk_alloc ?_ _)); exact BK109.out)) : gb109 ≠ gb120)); have n8_ := Aside0.mk ((by rw [hg]; exact Nat.ne_of_gt (blk_lt (g := gb109) (o := .cells #[.int .i64 t101, .int .i64 t102, .string t103, .string t104] 34 (0, 0)) (by (with_reducible repeat (first | refine blk_drewN ?_ _ | refine blk_drew ?_ | refine blk_alloc ?_ _)); exact BK109.out)) : gb120 ≠ gb109)); have n9_ := Aside0.mk ((by rw [hg]; exact Nat.ne_of_lt (blk_lt (g := gb110) (o := .cells #[.int .i64 t105, .int .i64 t106, .string t107, .string t108] 34 (0, 0)) (by (with_reducible repeat (first | refine blk_drewN ?_ _ | refine blk_drew ?_ | refine blk_alloc ?_ _)); exact BK110.out)) : gb110 ≠ gb120)); have n10_ := Aside0.mk ((by rw [hg]; exact Nat.ne_of_gt (blk_lt (g := gb110) (o := .cells #[.int .i64 t105, .int .i64 t106, .string t107, .string t108] 34 (0, 0)) (by (with_reducible repeat (first | refine blk_drewN ?_ _ | refine blk_drew ?_ | refine blk_alloc ?_ _)); exact BK110.out)) : gb120 ≠ gb110)); have n11_ := Aside0.mk ((by rw [hg]; exact Nat.ne_of_lt (blk_lt (g := gb119) (o := .cells #[.int .i64 0, .int .i64 0, .string (⟨#[]⟩ : ByteArray), .string (⟨#[]⟩ : ByteArray)] 34 (0, 0)) (by (with_reducible repeat (first | refine blk_drewN ?_ _ | refine blk_drew ?_ | refine blk_alloc ?_ _)); exact BK119.out)) : gb119 ≠ gb120)); have n12_ := Aside0.mk ((by rw [hg]; exact Nat.ne_of_gt (blk_lt (g := gb119) (o := .cells #[.int .i64 0, .int .i64 0, .string (⟨#[]⟩ : ByteArray), .string (⟨#[]⟩ : ByteArray)] 34 (0, 0)) (by (with_reducible repeat (first | refine blk_drewN ?_ _ | refine blk_drew ?_ | refine blk_alloc ?_ _)); exact BK119.out)) : gb120 ≠ gb119)); clear BK109; clear BK110; clear BK119; clear HB; have BK109 := n0_; have BK110 := n1_; have BK119 := n2_; have HB := n3_; have BK120 := n4_; have GW120 := n5_; have GE120 := n6_; have NB109_120 := n7_; have NB120_109 := n8_; have NB110_120 := n9_; have NB120_110 := n10_; have NB119_120 := n11_; have NB120_119 := n12_; clear n0_ n1_ n2_ n3_ n4_ n5_ n6_ n7_ n8_ n9_ n10_ n11_ n12_; clear hb hbox hg; have hnb18 := NB119_109.out; have hnc18 := NB109_119.out; have hnb19 := NB119_110.out; have hnc19 := NB110_119.out; have hnb20 := NB119_120.out; have hnc20 := NB120_119.out; have hcz21_0 : w17.cell? ⟨gb119, 0, none⟩ = some (.int .i64 0) := (blk_cell BK119.out 0).trans rfl; have hcz21_1 : w17.cell? ⟨gb119, 1, none⟩ = some (.int .i64 0) := (blk_cell BK119.out 1).trans rfl; have hcz21_2 : w17.cell? ⟨gb119, 2, none⟩ = some (.string (⟨#[]⟩ : ByteArray)) := (blk_cell BK119.out 2).trans rfl; have hcz21_3 : w17.cell? ⟨gb119, 3, none⟩ = some (.string (⟨#[]⟩ : ByteArray)) := (blk_cell BK119.out 3).trans rfl; have hfz21_0 := blk_frozen BK119.out 0; have hfz21_1 := blk_frozen BK119.out 1; have hfz21_2 := blk_frozen BK119.out 2; have hfz21_3 := blk_frozen BK119.out 3; have hnb22 := NB120_109.out; have hnc22 := NB109_120.out; have hnb23 := NB120_110.out; have hnc23 := NB110_120.out; have hcz24_0 : w17.cell? ⟨gb120, 0, none⟩ = some (.int .i64 0) := (blk_cell BK120.out 0).trans rfl; have hcz24_1 : w17.cell? ⟨gb120, 1, none⟩ = some (.int .i64 0) := (blk_cell BK120.out 1).trans rfl; have hcz24_2 : w17.cell? ⟨gb120, 2, none⟩ = some (.string (⟨#[]⟩ : ByteArray)) := (blk_cell BK120.out 2).trans rfl; have hcz24_3 : w17.cell? ⟨gb120, 3, none⟩ = some (.string (⟨#[]⟩ : ByteArray)) := (blk_cell BK120.out 3).trans rfl; have hfz24_0 := blk_frozen BK120.out 0; have hfz24_1 := blk_frozen BK120.out 1; have hfz24_2 := blk_frozen BK120.out 2; have hfz24_3 := blk_frozen BK120.out 3))
        (try simp only [Act.put, List.setIfInBounds_toArray, List.set_cons_zero, List.set_cons_succ])
        go_cut [46] (fun v46 wc => ∃ (kq : Nat) (x46_7 : Bool), v46 = .bool x46_7 ∧ Aside0 (laws_FnBlocks.j1 kq x46_7 t101 t102 t103 t104 t105 t106 t107 t108 t111 t112 t113 t114 = some r) ∧ Aside0 (kq ≤ kj2) ∧ Aside0 (wc.heap[gb109]? = some (.cells #[.int .i64 t101, .int .i64 t102, .string t103, .string t104] 34 (0, 0))) ∧ Aside0 (wc.heap[gb110]? = some (.cells #[.int .i64 t105, .int .i64 t106, .string t107, .string t108] 34 (0, 0))) ∧ Aside0 (wc.heap[gb119]? = some (.cells #[.int .i64 t111, .int .i64 t112, .string t113, .string t114] 34 (0, 0))) ∧ Aside0 (wc.heap[gb120]? = some (.cells #[.int .i64 t115, .int .i64 t116, .string t117, .string t118] 34 (0, 0))) ∧ Aside0 (Below w.heap.size w wc))
        case first =>
          have H := HC8.out
          clear HC8
          replace H := Option.bind_eq_some_iff.mp H
          obtain ⟨t121, A250, H⟩ := H
          replace H : ((spec_AddrIn.f kj2 t101 t102 t103 t104 t105 t106 t107 t108).bind fun t122 => (if (t121 != t122) = true then (laws_FnBlocks.j1 kj2 true t101 t102 t103 t104 t105 t106 t107 t108 t111 t112 t113 t114) else ((impl_AddrIn.f kj2 t101 t102 t103 t104 t101 t102 t103 t104).bind fun t123 => ((spec_GoodAtom.f kj2 t101 t102 t103 t104).bind fun t124 => (if t124 = true then (laws_FnBlocks.j1 kj2 (t123 != (t101 == 6)) t101 t102 t103 t104 t105 t106 t107 t108 t111 t112 t113 t114) else (laws_FnBlocks.j1 kj2 (t123 != false) t101 t102 t103 t104 t105 t106 t107 t108 t111 t112 t113 t114)))))) = some r := H
          have A25 := Aside0.mk A250
          clear A250
          replace H := Option.bind_eq_some_iff.mp H
          obtain ⟨t122, A260, H⟩ := H
          replace H : (if (t121 != t122) = true then (laws_FnBlocks.j1 kj2 true t101 t102 t103 t104 t105 t106 t107 t108 t111 t112 t113 t114) else ((impl_AddrIn.f kj2 t101 t102 t103 t104 t101 t102 t103 t104).bind fun t123 => ((spec_GoodAtom.f kj2 t101 t102 t103 t104).bind fun t124 => (if t124 = true then (laws_FnBlocks.j1 kj2 (t123 != (t101 == 6)) t101 t102 t103 t104 t105 t106 t107 t108 t111 t112 t113 t114) else (laws_FnBlocks.j1 kj2 (t123 != false) t101 t102 t103 t104 t105 t106 t107 t108 t111 t112 t113 t114))))) = some r := H
          have A26 := Aside0.mk A260
          clear A260
          by_cases c27 : (t121 != t122) = true
          · rw [if_pos c27] at H
            have c27b0 : (t121 != t122) = true := c27
            (try (have c27b1 : decide (t121 = t122) = false := by simpa using c27))
            (try (have c27b2 : (t121 == t122) = false := by simpa using c27))
            (try (have c27b3 : ¬ (t121 = t122) := by simpa using c27))
            clear c27
            (first | rw [c27b0] | (simp only [i64_w, i32_w]; rw [c27b0]) | skip)
            have H' := Aside0.mk H
            clear H
            try go_wp2
            have n0_ : Aside0 (((((((((w17.setCell ⟨gb119, 0, none⟩ (.int .i64 t111)).setCell ⟨gb119, 1, none⟩ (.int .i64 t112)).setCell ⟨gb119, 2, none⟩ (.string t113)).setCell ⟨gb119, 3, none⟩ (.string t114)).setCell ⟨gb120, 0, none⟩ (.int .i64 t115)).setCell ⟨gb120, 1, none⟩ (.int .i64 t116)).setCell ⟨gb120, 2, none⟩ (.string t117)).setCell ⟨gb120, 3, none⟩ (.string t118)).heap[gb109]? = some (.cells #[.int .i64 t101, .int .i64 t102, .string t103, .string t104] 34 (0, 0))) := ⟨by (with_reducible repeat (first | refine blk_drewN ?_ _ | refine blk_drew ?_ | refine blk_alloc ?_ _)); refine blk_far ?_ NB109_120.out _; (with_reducible repeat (first | refine blk_drewN ?_ _ | refine blk_drew ?_ | refine blk_alloc ?_ _)); refine blk_far ?_ NB109_120.out _; (with_reducible repeat (first | refine blk_drewN ?_ _ | refine blk_drew ?_ | refine blk_alloc ?_ _)); refine blk_far ?_ NB109_120.out _; (with_reducible repeat (first | refine blk_drewN ?_ _ | refine blk_drew ?_ | refine blk_alloc ?_ _)); refine blk_far ?_ NB109_120.out _; (with_reducible repeat (first | refine blk_drewN ?_ _ | refine blk_drew ?_ | refine blk_alloc ?_ _)); refine blk_far ?_ NB109_119.out _; (with_reducible repeat (first | refine blk_drewN ?_ _ | refine blk_drew ?_ | refine blk_alloc ?_ _)); refine blk_far ?_ NB109_119.out _; (with_reducible repeat (first | refine blk_drewN ?_ _ | refine blk_drew ?_ | refine blk_alloc ?_ _)); refine blk_far ?_ NB109_119.out _; (with_reducible repeat (first | refine blk_drewN ?_ _ | refine blk_drew ?_ | refine blk_alloc ?_ _)); refine blk_far ?_ NB109_119.out _; (with_reducible repeat (first | refine blk_drewN ?_ _ | refine blk_drew ?_ | refine blk_alloc ?_ _)); exact BK109.out⟩
            have n1_ : Aside0 (((((((((w17.setCell ⟨gb119, 0, none⟩ (.int .i64 t111)).setCell ⟨gb119, 1, none⟩ (.int .i64 t112)).setCell ⟨gb119, 2, none⟩ (.string t113)).setCell ⟨gb119, 3, none⟩ (.string t114)).setCell ⟨gb120, 0, none⟩ (.int .i64 t115)).setCell ⟨gb120, 1, none⟩ (.int .i64 t116)).setCell ⟨gb120, 2, none⟩ (.string t117)).setCell ⟨gb120, 3, none⟩ (.string t118)).heap[gb110]? = some (.cells #[.int .i64 t105, .int .i64 t106, .string t107, .string t108] 34 (0, 0))) := ⟨by (with_reducible repeat (first | refine blk_drewN ?_ _ | refine blk_drew ?_ | refine blk_alloc ?_ _)); refine blk_far ?_ NB110_120.out _; (with_reducible repeat (first | refine blk_drewN ?_ _ | refine blk_drew ?_ | refine blk_alloc ?_ _)); refine blk_far ?_ NB110_120.out _; (with_reducible repeat (first | refine blk_drewN ?_ _ | refine blk_drew ?_ | refine blk_alloc ?_ _)); refine blk_far ?_ NB110_120.out _; (with_reducible repeat (first | refine blk_drewN ?_ _ | refine blk_drew ?_ | refine blk_alloc ?_ _)); refine blk_far ?_ NB110_120.out _; (with_reducible repeat (first | refine blk_drewN ?_ _ | refine blk_drew ?_ | refine blk_alloc ?_ _)); refine blk_far ?_ NB110_119.out _; (with_reducible repeat (first | refine blk_drewN ?_ _ | refine blk_drew ?_ | refine blk_alloc ?_ _)); refine blk_far ?_ NB110_119.out _; (with_reducible repeat (first | refine blk_drewN ?_ _ | refine blk_drew ?_ | refine blk_alloc ?_ _)); refine blk_far ?_ NB110_119.out _; (with_reducible repeat (first | refine blk_drewN ?_ _ | refine blk_drew ?_ | refine blk_alloc ?_ _)); refine blk_far ?_ NB110_119.out _; (with_reducible repeat (first | refine blk_drewN ?_ _ | refine blk_drew ?_ | refine blk_alloc ?_ _)); exact BK110.out⟩
            have n2_ : Aside0 (((((((((w17.setCell ⟨gb119, 0, none⟩ (.int .i64 t111)).setCell ⟨gb119, 1, none⟩ (.int .i64 t112)).setCell ⟨gb119, 2, none⟩ (.string t113)).setCell ⟨gb119, 3, none⟩ (.string t114)).setCell ⟨gb120, 0, none⟩ (.int .i64 t115)).setCell ⟨gb120, 1, none⟩ (.int .i64 t116)).setCell ⟨gb120, 2, none⟩ (.string t117)).setCell ⟨gb120, 3, none⟩ (.string t118)).heap[gb119]? = some (.cells #[.int .i64 t111, .int .i64 t112, .string t113, .string t114] 34 (0, 0))) := ⟨by (with_reducible repeat (first | refine blk_drewN ?_ _ | refine blk_drew ?_ | refine blk_alloc ?_ _)); refine blk_far ?_ NB119_120.out _; (with_reducible repeat (first | refine blk_drewN ?_ _ | refine blk_drew ?_ | refine blk_alloc ?_ _)); refine blk_far ?_ NB119_120.out _; (with_reducible repeat (first | refine blk_drewN ?_ _ | refine blk_drew ?_ | refine blk_alloc ?_ _)); refine blk_far ?_ NB119_120.out _; (with_reducible repeat (first | refine blk_drewN ?_ _ | refine blk_drew ?_ | refine blk_alloc ?_ _)); refine blk_far ?_ NB119_120.out _; (with_reducible repeat (first | refine blk_drewN ?_ _ | refine blk_drew ?_ | refine blk_alloc ?_ _)); refine blk_put (cs := #[.int .i64 t111, .int .i64 t112, .string t113, .string (⟨#[]⟩ : ByteArray)]) ?_ 3 _ rfl; (with_reducible repeat (first | refine blk_drewN ?_ _ | refine blk_drew ?_ | refine blk_alloc ?_ _)); refine blk_put (cs := #[.int .i64 t111, .int .i64 t112, .string (⟨#[]⟩ : ByteArray), .string (⟨#[]⟩ : ByteArray)]) ?_ 2 _ rfl; (with_reducible repeat (first | refine blk_drewN ?_ _ | refine blk_drew ?_ | refine blk_alloc ?_ _)); refine blk_put (cs := #[.int .i64 t111, .int .i64 0, .string (⟨#[]⟩ : ByteArray), .string (⟨#[]⟩ : ByteArray)]) ?_ 1 _ rfl; (with_reducible repeat (first | refine blk_drewN ?_ _ | refine blk_drew ?_ | refine blk_alloc ?_ _)); refine blk_put (cs := #[.int .i64 0, .int .i64 0, .string (⟨#[]⟩ : ByteArray), .string (⟨#[]⟩ : ByteArray)]) ?_ 0 _ rfl; (with_reducible repeat (first | refine blk_drewN ?_ _ | refine blk_drew ?_ | refine blk_alloc ?_ _)); exact BK119.out⟩
            have n3_ : Aside0 (((((((((w17.setCell ⟨gb119, 0, none⟩ (.int .i64 t111)).setCell ⟨gb119, 1, none⟩ (.int .i64 t112)).setCell ⟨gb119, 2, none⟩ (.string t113)).setCell ⟨gb119, 3, none⟩ (.string t114)).setCell ⟨gb120, 0, none⟩ (.int .i64 t115)).setCell ⟨gb120, 1, none⟩ (.int .i64 t116)).setCell ⟨gb120, 2, none⟩ (.string t117)).setCell ⟨gb120, 3, none⟩ (.string t118)).heap[gb120]? = some (.cells #[.int .i64 t115, .int .i64 t116, .string t117, .string t118] 34 (0, 0))) := ⟨by (with_reducible repeat (first | refine blk_drewN ?_ _ | refine blk_drew ?_ | refine blk_alloc ?_ _)); refine blk_put (cs := #[.int .i64 t115, .int .i64 t116, .string t117, .string (⟨#[]⟩ : ByteArray)]) ?_ 3 _ rfl; (with_reducible repeat (first | refine blk_drewN ?_ _ | refine blk_drew ?_ | refine blk_alloc ?_ _)); refine blk_put (cs := #[.int .i64 t115, .int .i64 t116, .string (⟨#[]⟩ : ByteArray), .string (⟨#[]⟩ : ByteArray)]) ?_ 2 _ rfl; (with_reducible repeat (first | refine blk_drewN ?_ _ | refine blk_drew ?_ | refine blk_alloc ?_ _)); refine blk_put (cs := #[.int .i64 t115, .int .i64 0, .string (⟨#[]⟩ : ByteArray), .string (⟨#[]⟩ : ByteArray)]) ?_ 1 _ rfl; (with_reducible repeat (first | refine blk_drewN ?_ _ | refine blk_drew ?_ | refine blk_alloc ?_ _)); refine blk_put (cs := #[.int .i64 0, .int .i64 0, .string (⟨#[]⟩ : ByteArray), .string (⟨#[]⟩ : ByteArray)]) ?_ 0 _ rfl; (with_reducible repeat (first | refine blk_drewN ?_ _ | refine blk_drew ?_ | refine blk_alloc ?_ _)); refine blk_far ?_ NB120_119.out _; (with_reducible repeat (first | refine blk_drewN ?_ _ | refine blk_drew ?_ | refine blk_alloc ?_ _)); refine blk_far ?_ NB120_119.out _; (with_reducible repeat (first | refine blk_drewN ?_ _ | refine blk_drew ?_ | refine blk_alloc ?_ _)); refine blk_far ?_ NB120_119.out _; (with_reducible repeat (first | refine blk_drewN ?_ _ | refine blk_drew ?_ | refine blk_alloc ?_ _)); refine blk_far ?_ NB120_119.out _; (with_reducible repeat (first | refine blk_drewN ?_ _ | refine blk_drew ?_ | refine blk_alloc ?_ _)); exact BK120.out⟩
            have n4_ : Aside0 (Below w.heap.size w ((((((((w17.setCell ⟨gb119, 0, none⟩ (.int .i64 t111)).setCell ⟨gb119, 1, none⟩ (.int .i64 t112)).setCell ⟨gb119, 2, none⟩ (.string t113)).setCell ⟨gb119, 3, none⟩ (.string t114)).setCell ⟨gb120, 0, none⟩ (.int .i64 t115)).setCell ⟨gb120, 1, none⟩ (.int .i64 t116)).setCell ⟨gb120, 2, none⟩ (.string t117)).setCell ⟨gb120, 3, none⟩ (.string t118))) := ⟨by repeat (first | (with_reducible first | exact HB.out | apply below_alloc | apply pw_below_drewN | apply below_drew1 | refine below_set ?_ GE109.out | refine below_set ?_ GE110.out | refine below_set ?_ GE119.out | refine below_set ?_ GE120.out) | exact HB.out)⟩
            (try clear BK109)
            (try clear BK110)
            (try clear BK119)
            (try clear BK120)
            (try clear HB)
            generalize ((((((((w17.setCell ⟨gb119, 0, none⟩ (.int .i64 t111)).setCell ⟨gb119, 1, none⟩ (.int .i64 t112)).setCell ⟨gb119, 2, none⟩ (.string t113)).setCell ⟨gb119, 3, none⟩ (.string t114)).setCell ⟨gb120, 0, none⟩ (.int .i64 t115)).setCell ⟨gb120, 1, none⟩ (.int .i64 t116)).setCell ⟨gb120, 2, none⟩ (.string t117)).setCell ⟨gb120, 3, none⟩ (.string t118)) = w28 at n0_ n1_ n2_ n3_ n4_ ⊢
            have BK109 := n0_
            have BK110 := n1_
            have BK119 := n2_
            have BK120 := n3_
            have HB := n4_
            clear n0_ n1_ n2_ n3_ n4_
            have n0_ := Aside0.mk (blk_drew BK109.out)
            have n1_ := Aside0.mk (blk_drew BK110.out)
            have n2_ := Aside0.mk (blk_drew BK119.out)
            have n3_ := Aside0.mk (blk_drew BK120.out)
            have n4_ := Aside0.mk (below_drew1 HB.out)
            clear BK109
            clear BK110
            clear BK119
            clear BK120
            clear HB
            have BK109 := n0_
            have BK110 := n1_
            have BK119 := n2_
            have BK120 := n3_
            have HB := n4_
            clear n0_ n1_ n2_ n3_ n4_
            refine start_ (n := 20) (S := fun w' => w'.cell? ⟨gb109, 0, none⟩ = some (.int .i64 t101) ∧ w'.cell? ⟨gb109, 1, none⟩ = some (.int .i64 t102) ∧ w'.cell? ⟨gb109, 2, none⟩ = some (.string t103) ∧ w'.cell? ⟨gb109, 3, none⟩ = some (.string t104) ∧ w'.cell? ⟨gb110, 0, none⟩ = some (.int .i64 t105) ∧ w'.cell? ⟨gb110, 1, none⟩ = some (.int .i64 t106) ∧ w'.cell? ⟨gb110, 2, none⟩ = some (.string t107) ∧ w'.cell? ⟨gb110, 3, none⟩ = some (.string t108)) (ds := []) #[false, false, false, false, false, false, false, false, false, false, false, false, false, false, false, false, false, false, false, false] (by kernel_rfl) rfl rfl ⟨(blk_cell BK109.out 0).trans rfl, (blk_cell BK109.out 1).trans rfl, (blk_cell BK109.out 2).trans rfl, (blk_cell BK109.out 3).trans rfl, (blk_cell BK110.out 0).trans rfl, (blk_cell BK110.out 1).trans rfl, (blk_cell BK110.out 2).trans rfl, (blk_cell BK110.out 3).trans rfl⟩ (fun hHeld => ?_); refine with_tabW laws_FnBlocks.tab5 laws_FnBlocks.bits5 (fun HT_ HW_ => ?_)
            generalize w28.drew = w29 at BK109 BK110 BK119 BK120 HB hHeld ⊢
            refine take_ (i := 0) (N := some 27) (v := ?_) (a' := ?_) #[true, false, false, false, false, false, false, false, false, false, false, false, false, false, false, false, false, false, false, false] rfl rfl (take_ofW HT_.out HW_.out (by kernel_rfl)) (fun _ _ _ h => h) (Or.inl ⟨by rfl, ?_⟩) hHeld ?_ ?_
            rotate_left
            · rintro w' ⟨s0, s1, s2, s3, s4, s5, s6, s7⟩
              go_simp
              with_reducible rfl
            rotate_left
            · simp only [Act.put, List.setIfInBounds_toArray, List.set_cons_zero, List.set_cons_succ, i64_w, i32_w]
              rfl
            refine take_ (i := 1) (N := some 28) (v := ?_) (a' := ?_) #[true, true, false, false, false, false, false, false, false, false, false, false, false, false, false, false, false, false, false, false] rfl rfl (take_ofW HT_.out HW_.out (by kernel_rfl)) (fun _ _ _ h => h) (Or.inl ⟨by rfl, ?_⟩) hHeld ?_ ?_
            rotate_left
            · rintro w' ⟨s0, s1, s2, s3, s4, s5, s6, s7⟩
              go_simp
              with_reducible rfl
            rotate_left
            · simp only [Act.put, List.setIfInBounds_toArray, List.set_cons_zero, List.set_cons_succ, i64_w, i32_w]
              rfl
            refine take_ (i := 3) (N := some 30) (v := ?_) (a' := ?_) #[true, true, false, true, false, false, false, false, false, false, false, false, false, false, false, false, false, false, false, false] rfl rfl (take_ofW HT_.out HW_.out (by kernel_rfl)) (fun _ _ _ h => h) (Or.inl ⟨by rfl, ?_⟩) hHeld ?_ ?_
            rotate_left
            · rintro w' ⟨s0, s1, s2, s3, s4, s5, s6, s7⟩
              go_simp
              with_reducible rfl
            rotate_left
            · simp only [Act.put, List.setIfInBounds_toArray, List.set_cons_zero, List.set_cons_succ, i64_w, i32_w]
              rfl
            refine take_ (i := 4) (N := some 31) (v := ?_) (a' := ?_) #[true, true, false, true, true, false, false, false, false, false, false, false, false, false, false, false, false, false, false, false] rfl rfl (take_ofW HT_.out HW_.out (by kernel_rfl)) (fun _ _ _ h => h) (Or.inl ⟨by rfl, ?_⟩) hHeld ?_ ?_
            rotate_left
            · rintro w' ⟨s0, s1, s2, s3, s4, s5, s6, s7⟩
              go_simp
              with_reducible rfl
            rotate_left
            · simp only [Act.put, List.setIfInBounds_toArray, List.set_cons_zero, List.set_cons_succ, i64_w, i32_w]
              rfl
            refine one_ (i := 2) (N := some 29) #[true, true, true, true, true, false, false, false, false, false, false, false, false, false, false, false, false, false, false, false] rfl rfl (one_of HT_.out (by kernel_rfl)) (by decide) (fun K hK => ?_)
            refine goes_ Try.func23 (by kernel_rfl) rfl #[.agg #[.int .i64 t101, .int .i64 t102, .string t103, .string t104], .agg #[.int .i64 t105, .int .i64 t106, .string t107, .string t108]] (by rfl) rfl rfl (by (try simp only [List.map_toArray, List.map_cons, List.map_nil]); first | done | rfl | (simp only [List.length_drop, List.length_take]; rfl)) ?_
            with_reducible refine (impl_AddrIn.calls kj2 t101 t102 t103 t104 t105 t106 t107 t108 t121 _ A25.out).mono ?_
            rintro e w30 ⟨rfl, hb⟩
            refine ⟨_, rfl, ?_⟩
            have n0_ := Aside0.mk (blk_below (g := gb109) (o := .cells #[.int .i64 t101, .int .i64 t102, .string t103, .string t104] 34 (0, 0)) (by (with_reducible repeat (first | refine blk_drewN ?_ _ | refine blk_drew ?_ | refine blk_alloc ?_ _)); exact BK109.out) hb)
            have n1_ := Aside0.mk (blk_below (g := gb110) (o := .cells #[.int .i64 t105, .int .i64 t106, .string t107, .string t108] 34 (0, 0)) (by (with_reducible repeat (first | refine blk_drewN ?_ _ | refine blk_drew ?_ | refine blk_alloc ?_ _)); exact BK110.out) hb)
            have n2_ := Aside0.mk (blk_below (g := gb119) (o := .cells #[.int .i64 t111, .int .i64 t112, .string t113, .string t114] 34 (0, 0)) (by (with_reducible repeat (first | refine blk_drewN ?_ _ | refine blk_drew ?_ | refine blk_alloc ?_ _)); exact BK119.out) hb)
            have n3_ := Aside0.mk (blk_below (g := gb120) (o := .cells #[.int .i64 t115, .int .i64 t116, .string t117, .string t118] 34 (0, 0)) (by (with_reducible repeat (first | refine blk_drewN ?_ _ | refine blk_drew ?_ | refine blk_alloc ?_ _)); exact BK120.out) hb)
            have n4_ := Aside0.mk (below_step (by repeat (first | (with_reducible first | exact HB.out | apply below_alloc | apply pw_below_drewN | apply below_drew1 | refine below_set ?_ GE109.out | refine below_set ?_ GE110.out | refine below_set ?_ GE119.out | refine below_set ?_ GE120.out) | exact HB.out)) hb)
            clear BK109
            clear BK110
            clear BK119
            clear BK120
            clear HB
            have BK109 := n0_
            have BK110 := n1_
            have BK119 := n2_
            have BK120 := n3_
            have HB := n4_
            clear n0_ n1_ n2_ n3_ n4_
            (try clear hb)
            (try clear hb2)
            (try clear hk)
            (try clear hi)
            refine hK.out _ _ ⟨(blk_cell BK109.out 0).trans rfl, (blk_cell BK109.out 1).trans rfl, (blk_cell BK109.out 2).trans rfl, (blk_cell BK109.out 3).trans rfl, (blk_cell BK110.out 0).trans rfl, (blk_cell BK110.out 1).trans rfl, (blk_cell BK110.out 2).trans rfl, (blk_cell BK110.out 3).trans rfl⟩ (fun hHeld => ?_)
            clear hK K
            refine norm_ (a' := ?_) ?_ ?_
            rotate_left
            · show Act.put _ (some 29) _ = _
              simp only [Act.put, List.setIfInBounds_toArray, List.set_cons_zero, List.set_cons_succ, i64_w, i32_w]
              rfl
            refine one_ (i := 5) (N := some 32) #[true, true, true, true, true, true, false, false, false, false, false, false, false, false, false, false, false, false, false, false] rfl rfl (one_of HT_.out (by kernel_rfl)) (by decide) (fun K hK => ?_)
            refine goes_ Try.func24 (by kernel_rfl) rfl #[.agg #[.int .i64 t101, .int .i64 t102, .string t103, .string t104], .agg #[.int .i64 t105, .int .i64 t106, .string t107, .string t108]] (by rfl) rfl rfl (by (try simp only [List.map_toArray, List.map_cons, List.map_nil]); first | done | rfl | (simp only [List.length_drop, List.length_take]; rfl)) ?_
            with_reducible refine (spec_AddrIn.calls kj2 t101 t102 t103 t104 t105 t106 t107 t108 t122 _ A26.out).mono ?_
            rintro e w31 ⟨rfl, hb⟩
            refine ⟨_, rfl, ?_⟩
            have n0_ := Aside0.mk (blk_below (g := gb109) (o := .cells #[.int .i64 t101, .int .i64 t102, .string t103, .string t104] 34 (0, 0)) (by (with_reducible repeat (first | refine blk_drewN ?_ _ | refine blk_drew ?_ | refine blk_alloc ?_ _)); exact BK109.out) hb)
            have n1_ := Aside0.mk (blk_below (g := gb110) (o := .cells #[.int .i64 t105, .int .i64 t106, .string t107, .string t108] 34 (0, 0)) (by (with_reducible repeat (first | refine blk_drewN ?_ _ | refine blk_drew ?_ | refine blk_alloc ?_ _)); exact BK110.out) hb)
            have n2_ := Aside0.mk (blk_below (g := gb119) (o := .cells #[.int .i64 t111, .int .i64 t112, .string t113, .string t114] 34 (0, 0)) (by (with_reducible repeat (first | refine blk_drewN ?_ _ | refine blk_drew ?_ | refine blk_alloc ?_ _)); exact BK119.out) hb)
            have n3_ := Aside0.mk (blk_below (g := gb120) (o := .cells #[.int .i64 t115, .int .i64 t116, .string t117, .string t118] 34 (0, 0)) (by (with_reducible repeat (first | refine blk_drewN ?_ _ | refine blk_drew ?_ | refine blk_alloc ?_ _)); exact BK120.out) hb)
            have n4_ := Aside0.mk (below_step (by repeat (first | (with_reducible first | exact HB.out | apply below_alloc | apply pw_below_drewN | apply below_drew1 | refine below_set ?_ GE109.out | refine below_set ?_ GE110.out | refine below_set ?_ GE119.out | refine below_set ?_ GE120.out) | exact HB.out)) hb)
            clear BK109
            clear BK110
            clear BK119
            clear BK120
            clear HB
            have BK109 := n0_
            have BK110 := n1_
            have BK119 := n2_
            have BK120 := n3_
            have HB := n4_
            clear n0_ n1_ n2_ n3_ n4_
            (try clear hb)
            (try clear hb2)
            (try clear hk)
            (try clear hi)
            refine hK.out _ _ ⟨(blk_cell BK109.out 0).trans rfl, (blk_cell BK109.out 1).trans rfl, (blk_cell BK109.out 2).trans rfl, (blk_cell BK109.out 3).trans rfl, (blk_cell BK110.out 0).trans rfl, (blk_cell BK110.out 1).trans rfl, (blk_cell BK110.out 2).trans rfl, (blk_cell BK110.out 3).trans rfl⟩ (fun hHeld => ?_)
            clear hK K
            refine norm_ (a' := ?_) ?_ ?_
            rotate_left
            · show Act.put _ (some 32) _ = _
              simp only [Act.put, List.setIfInBounds_toArray, List.set_cons_zero, List.set_cons_succ, i64_w, i32_w]
              rfl
            refine pure_ (i := 6) (N := some 33) (v := ?_) (a' := ?_) #[true, true, true, true, true, true, true, false, false, false, false, false, false, false, false, false, false, false, false, false] rfl rfl (any_of HT_.out (by kernel_rfl)) (fun _ _ _ h => h) (Or.inl ⟨by rfl, ?_⟩) ?_ ?_
            rotate_left
            · intro w'
              go_simp
              with_reducible rfl
            rotate_left
            · simp only [Act.put, List.setIfInBounds_toArray, List.set_cons_zero, List.set_cons_succ, i64_w, i32_w]
              rfl
            refine pure_ (i := 7) (N := some 34) (v := ?_) (a' := ?_) #[true, true, true, true, true, true, true, true, false, false, false, false, false, false, false, false, false, false, false, false] rfl rfl (any_of HT_.out (by kernel_rfl)) (fun _ _ _ h => h) (Or.inl ⟨by rfl, ?_⟩) ?_ ?_
            rotate_left
            · intro w'
              go_simp
              with_reducible rfl
            rotate_left
            · simp only [Act.put, List.setIfInBounds_toArray, List.set_cons_zero, List.set_cons_succ, i64_w, i32_w]
              rfl
            refine pure_ (i := 8) (N := some 35) (v := undef) (a' := ?_) #[true, true, true, true, true, true, true, true, true, false, false, false, false, false, false, false, false, false, false, false] rfl rfl (any_of HT_.out (by kernel_rfl)) (fun _ _ _ h => h) (Or.inr ⟨by rfl, rfl⟩) ?_ ?_
            rotate_left
            · simp only [Act.put, List.setIfInBounds_toArray, List.set_cons_zero, List.set_cons_succ, i64_w, i32_w]
              rfl
            refine pure_ (i := 9) (N := some 36) (v := undef) (a' := ?_) #[true, true, true, true, true, true, true, true, true, true, false, false, false, false, false, false, false, false, false, false] rfl rfl (any_of HT_.out (by kernel_rfl)) (fun _ _ _ h => h) (Or.inr ⟨by rfl, rfl⟩) ?_ ?_
            rotate_left
            · simp only [Act.put, List.setIfInBounds_toArray, List.set_cons_zero, List.set_cons_succ, i64_w, i32_w]
              rfl
            refine pure_ (i := 10) (N := some 37) (v := undef) (a' := ?_) #[true, true, true, true, true, true, true, true, true, true, true, false, false, false, false, false, false, false, false, false] rfl rfl (any_of HT_.out (by kernel_rfl)) (fun _ _ _ h => h) (Or.inr ⟨by rfl, rfl⟩) ?_ ?_
            rotate_left
            · simp only [Act.put, List.setIfInBounds_toArray, List.set_cons_zero, List.set_cons_succ, i64_w, i32_w]
              rfl
            refine pure_ (i := 11) (N := some 38) (v := undef) (a' := ?_) #[true, true, true, true, true, true, true, true, true, true, true, true, false, false, false, false, false, false, false, false] rfl rfl (any_of HT_.out (by kernel_rfl)) (fun _ _ _ h => h) (Or.inr ⟨by rfl, rfl⟩) ?_ ?_
            rotate_left
            · simp only [Act.put, List.setIfInBounds_toArray, List.set_cons_zero, List.set_cons_succ, i64_w, i32_w]
              rfl
            refine pure_ (i := 12) (N := some 39) (v := undef) (a' := ?_) #[true, true, true, true, true, true, true, true, true, true, true, true, true, false, false, false, false, false, false, false] rfl rfl (any_of HT_.out (by kernel_rfl)) (fun _ _ _ h => h) (Or.inr ⟨by rfl, rfl⟩) ?_ ?_
            rotate_left
            · simp only [Act.put, List.setIfInBounds_toArray, List.set_cons_zero, List.set_cons_succ, i64_w, i32_w]
              rfl
            refine pure_ (i := 13) (N := some 40) (v := undef) (a' := ?_) #[true, true, true, true, true, true, true, true, true, true, true, true, true, true, false, false, false, false, false, false] rfl rfl (any_of HT_.out (by kernel_rfl)) (fun _ _ _ h => h) (Or.inr ⟨by rfl, rfl⟩) ?_ ?_
            rotate_left
            · simp only [Act.put, List.setIfInBounds_toArray, List.set_cons_zero, List.set_cons_succ, i64_w, i32_w]
              rfl
            refine pure_ (i := 14) (N := some 41) (v := undef) (a' := ?_) #[true, true, true, true, true, true, true, true, true, true, true, true, true, true, true, false, false, false, false, false] rfl rfl (any_of HT_.out (by kernel_rfl)) (fun _ _ _ h => h) (Or.inr ⟨by rfl, rfl⟩) ?_ ?_
            rotate_left
            · simp only [Act.put, List.setIfInBounds_toArray, List.set_cons_zero, List.set_cons_succ, i64_w, i32_w]
              rfl
            refine pure_ (i := 15) (N := some 42) (v := undef) (a' := ?_) #[true, true, true, true, true, true, true, true, true, true, true, true, true, true, true, true, false, false, false, false] rfl rfl (any_of HT_.out (by kernel_rfl)) (fun _ _ _ h => h) (Or.inr ⟨by rfl, rfl⟩) ?_ ?_
            rotate_left
            · simp only [Act.put, List.setIfInBounds_toArray, List.set_cons_zero, List.set_cons_succ, i64_w, i32_w]
              rfl
            refine pure_ (i := 16) (N := some 43) (v := undef) (a' := ?_) #[true, true, true, true, true, true, true, true, true, true, true, true, true, true, true, true, true, false, false, false] rfl rfl (any_of HT_.out (by kernel_rfl)) (fun _ _ _ h => h) (Or.inr ⟨by rfl, rfl⟩) ?_ ?_
            rotate_left
            · simp only [Act.put, List.setIfInBounds_toArray, List.set_cons_zero, List.set_cons_succ, i64_w, i32_w]
              rfl
            refine pure_ (i := 17) (N := some 44) (v := undef) (a' := ?_) #[true, true, true, true, true, true, true, true, true, true, true, true, true, true, true, true, true, true, false, false] rfl rfl (any_of HT_.out (by kernel_rfl)) (fun _ _ _ h => h) (Or.inr ⟨by rfl, rfl⟩) ?_ ?_
            rotate_left
            · simp only [Act.put, List.setIfInBounds_toArray, List.set_cons_zero, List.set_cons_succ, i64_w, i32_w]
              rfl
            refine pure_ (i := 18) (N := some 45) (v := undef) (a' := ?_) #[true, true, true, true, true, true, true, true, true, true, true, true, true, true, true, true, true, true, true, false] rfl rfl (any_of HT_.out (by kernel_rfl)) (fun _ _ _ h => h) (Or.inr ⟨by rfl, rfl⟩) ?_ ?_
            rotate_left
            · simp only [Act.put, List.setIfInBounds_toArray, List.set_cons_zero, List.set_cons_succ, i64_w, i32_w]
              rfl
            refine pure_ (i := 19) (N := some 46) (v := ?_) (a' := ?_) #[true, true, true, true, true, true, true, true, true, true, true, true, true, true, true, true, true, true, true, true] rfl rfl (any_of HT_.out (by kernel_rfl)) (fun _ _ _ h => h) (Or.inl ⟨by rfl, ?_⟩) ?_ ?_
            rotate_left
            · intro w'
              go_simp
              with_reducible rfl
            rotate_left
            · simp only [Act.put, List.setIfInBounds_toArray, List.set_cons_zero, List.set_cons_succ, i64_w, i32_w]
              rfl
            refine done_ (done_of HT_.out (by kernel_rfl)) ?_
            try go_wp2
            go_meet
            case rel => exact ⟨_, (true), (by first | rfl | (simp; done) | (simp [*]; done)), H', ⟨by have := HJ2.out; first | omega | exact Nat.le_refl _⟩, ⟨by (with_reducible repeat (first | refine blk_drewN ?_ _ | refine blk_drew ?_ | refine blk_alloc ?_ _)); exact BK109.out⟩, ⟨by (with_reducible repeat (first | refine blk_drewN ?_ _ | refine blk_drew ?_ | refine blk_alloc ?_ _)); exact BK110.out⟩, ⟨by (with_reducible repeat (first | refine blk_drewN ?_ _ | refine blk_drew ?_ | refine blk_alloc ?_ _)); exact BK119.out⟩, ⟨by (with_reducible repeat (first | refine blk_drewN ?_ _ | refine blk_drew ?_ | refine blk_alloc ?_ _)); exact BK120.out⟩, ⟨by repeat (first | (with_reducible first | exact HB.out | apply below_alloc | apply pw_below_drewN | apply below_drew1 | refine below_set ?_ GE109.out | refine below_set ?_ GE110.out | refine below_set ?_ GE119.out | refine below_set ?_ GE120.out) | exact HB.out)⟩⟩
          · rw [if_neg c27] at H
            have c27b0 : (t121 != t122) = false := by simpa using c27
            (try (have c27b1 : decide (t121 = t122) = true := by simpa using c27))
            (try (have c27b2 : (t121 == t122) = true := by simpa using c27))
            clear c27
            (first | rw [c27b0] | (simp only [i64_w, i32_w]; rw [c27b0]) | skip)
            replace H := Option.bind_eq_some_iff.mp H
            obtain ⟨t123, A320, H⟩ := H
            replace H : ((spec_GoodAtom.f kj2 t101 t102 t103 t104).bind fun t124 => (if t124 = true then (laws_FnBlocks.j1 kj2 (t123 != (t101 == 6)) t101 t102 t103 t104 t105 t106 t107 t108 t111 t112 t113 t114) else (laws_FnBlocks.j1 kj2 (t123 != false) t101 t102 t103 t104 t105 t106 t107 t108 t111 t112 t113 t114))) = some r := H
            have A32 := Aside0.mk A320
            clear A320
            replace H := Option.bind_eq_some_iff.mp H
            obtain ⟨t124, A330, H⟩ := H
            replace H : (if t124 = true then (laws_FnBlocks.j1 kj2 (t123 != (t101 == 6)) t101 t102 t103 t104 t105 t106 t107 t108 t111 t112 t113 t114) else (laws_FnBlocks.j1 kj2 (t123 != false) t101 t102 t103 t104 t105 t106 t107 t108 t111 t112 t113 t114)) = some r := H
            have A33 := Aside0.mk A330
            clear A330
            by_cases c34 : t124 = true
            · subst c34
              have H1 : (laws_FnBlocks.j1 kj2 (t123 != (t101 == 6)) t101 t102 t103 t104 t105 t106 t107 t108 t111 t112 t113 t114) = some r := by rw [if_pos rfl] at H; exact H
              clear H
              have H := H1
              clear H1
              have H' := Aside0.mk H
              clear H
              try go_wp2
              have n0_ : Aside0 (((((((((w17.setCell ⟨gb119, 0, none⟩ (.int .i64 t111)).setCell ⟨gb119, 1, none⟩ (.int .i64 t112)).setCell ⟨gb119, 2, none⟩ (.string t113)).setCell ⟨gb119, 3, none⟩ (.string t114)).setCell ⟨gb120, 0, none⟩ (.int .i64 t115)).setCell ⟨gb120, 1, none⟩ (.int .i64 t116)).setCell ⟨gb120, 2, none⟩ (.string t117)).setCell ⟨gb120, 3, none⟩ (.string t118)).heap[gb109]? = some (.cells #[.int .i64 t101, .int .i64 t102, .string t103, .string t104] 34 (0, 0))) := ⟨by (with_reducible repeat (first | refine blk_drewN ?_ _ | refine blk_drew ?_ | refine blk_alloc ?_ _)); refine blk_far ?_ NB109_120.out _; (with_reducible repeat (first | refine blk_drewN ?_ _ | refine blk_drew ?_ | refine blk_alloc ?_ _)); refine blk_far ?_ NB109_120.out _; (with_reducible repeat (first | refine blk_drewN ?_ _ | refine blk_drew ?_ | refine blk_alloc ?_ _)); refine blk_far ?_ NB109_120.out _; (with_reducible repeat (first | refine blk_drewN ?_ _ | refine blk_drew ?_ | refine blk_alloc ?_ _)); refine blk_far ?_ NB109_120.out _; (with_reducible repeat (first | refine blk_drewN ?_ _ | refine blk_drew ?_ | refine blk_alloc ?_ _)); refine blk_far ?_ NB109_119.out _; (with_reducible repeat (first | refine blk_drewN ?_ _ | refine blk_drew ?_ | refine blk_alloc ?_ _)); refine blk_far ?_ NB109_119.out _; (with_reducible repeat (first | refine blk_drewN ?_ _ | refine blk_drew ?_ | refine blk_alloc ?_ _)); refine blk_far ?_ NB109_119.out _; (with_reducible repeat (first | refine blk_drewN ?_ _ | refine blk_drew ?_ | refine blk_alloc ?_ _)); refine blk_far ?_ NB109_119.out _; (with_reducible repeat (first | refine blk_drewN ?_ _ | refine blk_drew ?_ | refine blk_alloc ?_ _)); exact BK109.out⟩
              have n1_ : Aside0 (((((((((w17.setCell ⟨gb119, 0, none⟩ (.int .i64 t111)).setCell ⟨gb119, 1, none⟩ (.int .i64 t112)).setCell ⟨gb119, 2, none⟩ (.string t113)).setCell ⟨gb119, 3, none⟩ (.string t114)).setCell ⟨gb120, 0, none⟩ (.int .i64 t115)).setCell ⟨gb120, 1, none⟩ (.int .i64 t116)).setCell ⟨gb120, 2, none⟩ (.string t117)).setCell ⟨gb120, 3, none⟩ (.string t118)).heap[gb110]? = some (.cells #[.int .i64 t105, .int .i64 t106, .string t107, .string t108] 34 (0, 0))) := ⟨by (with_reducible repeat (first | refine blk_drewN ?_ _ | refine blk_drew ?_ | refine blk_alloc ?_ _)); refine blk_far ?_ NB110_120.out _; (with_reducible repeat (first | refine blk_drewN ?_ _ | refine blk_drew ?_ | refine blk_alloc ?_ _)); refine blk_far ?_ NB110_120.out _; (with_reducible repeat (first | refine blk_drewN ?_ _ | refine blk_drew ?_ | refine blk_alloc ?_ _)); refine blk_far ?_ NB110_120.out _; (with_reducible repeat (first | refine blk_drewN ?_ _ | refine blk_drew ?_ | refine blk_alloc ?_ _)); refine blk_far ?_ NB110_120.out _; (with_reducible repeat (first | refine blk_drewN ?_ _ | refine blk_drew ?_ | refine blk_alloc ?_ _)); refine blk_far ?_ NB110_119.out _; (with_reducible repeat (first | refine blk_drewN ?_ _ | refine blk_drew ?_ | refine blk_alloc ?_ _)); refine blk_far ?_ NB110_119.out _; (with_reducible repeat (first | refine blk_drewN ?_ _ | refine blk_drew ?_ | refine blk_alloc ?_ _)); refine blk_far ?_ NB110_119.out _; (with_reducible repeat (first | refine blk_drewN ?_ _ | refine blk_drew ?_ | refine blk_alloc ?_ _)); refine blk_far ?_ NB110_119.out _; (with_reducible repeat (first | refine blk_drewN ?_ _ | refine blk_drew ?_ | refine blk_alloc ?_ _)); exact BK110.out⟩
              have n2_ : Aside0 (((((((((w17.setCell ⟨gb119, 0, none⟩ (.int .i64 t111)).setCell ⟨gb119, 1, none⟩ (.int .i64 t112)).setCell ⟨gb119, 2, none⟩ (.string t113)).setCell ⟨gb119, 3, none⟩ (.string t114)).setCell ⟨gb120, 0, none⟩ (.int .i64 t115)).setCell ⟨gb120, 1, none⟩ (.int .i64 t116)).setCell ⟨gb120, 2, none⟩ (.string t117)).setCell ⟨gb120, 3, none⟩ (.string t118)).heap[gb119]? = some (.cells #[.int .i64 t111, .int .i64 t112, .string t113, .string t114] 34 (0, 0))) := ⟨by (with_reducible repeat (first | refine blk_drewN ?_ _ | refine blk_drew ?_ | refine blk_alloc ?_ _)); refine blk_far ?_ NB119_120.out _; (with_reducible repeat (first | refine blk_drewN ?_ _ | refine blk_drew ?_ | refine blk_alloc ?_ _)); refine blk_far ?_ NB119_120.out _; (with_reducible repeat (first | refine blk_drewN ?_ _ | refine blk_drew ?_ | refine blk_alloc ?_ _)); refine blk_far ?_ NB119_120.out _; (with_reducible repeat (first | refine blk_drewN ?_ _ | refine blk_drew ?_ | refine blk_alloc ?_ _)); refine blk_far ?_ NB119_120.out _; (with_reducible repeat (first | refine blk_drewN ?_ _ | refine blk_drew ?_ | refine blk_alloc ?_ _)); refine blk_put (cs := #[.int .i64 t111, .int .i64 t112, .string t113, .string (⟨#[]⟩ : ByteArray)]) ?_ 3 _ rfl; (with_reducible repeat (first | refine blk_drewN ?_ _ | refine blk_drew ?_ | refine blk_alloc ?_ _)); refine blk_put (cs := #[.int .i64 t111, .int .i64 t112, .string (⟨#[]⟩ : ByteArray), .string (⟨#[]⟩ : ByteArray)]) ?_ 2 _ rfl; (with_reducible repeat (first | refine blk_drewN ?_ _ | refine blk_drew ?_ | refine blk_alloc ?_ _)); refine blk_put (cs := #[.int .i64 t111, .int .i64 0, .string (⟨#[]⟩ : ByteArray), .string (⟨#[]⟩ : ByteArray)]) ?_ 1 _ rfl; (with_reducible repeat (first | refine blk_drewN ?_ _ | refine blk_drew ?_ | refine blk_alloc ?_ _)); refine blk_put (cs := #[.int .i64 0, .int .i64 0, .string (⟨#[]⟩ : ByteArray), .string (⟨#[]⟩ : ByteArray)]) ?_ 0 _ rfl; (with_reducible repeat (first | refine blk_drewN ?_ _ | refine blk_drew ?_ | refine blk_alloc ?_ _)); exact BK119.out⟩
              have n3_ : Aside0 (((((((((w17.setCell ⟨gb119, 0, none⟩ (.int .i64 t111)).setCell ⟨gb119, 1, none⟩ (.int .i64 t112)).setCell ⟨gb119, 2, none⟩ (.string t113)).setCell ⟨gb119, 3, none⟩ (.string t114)).setCell ⟨gb120, 0, none⟩ (.int .i64 t115)).setCell ⟨gb120, 1, none⟩ (.int .i64 t116)).setCell ⟨gb120, 2, none⟩ (.string t117)).setCell ⟨gb120, 3, none⟩ (.string t118)).heap[gb120]? = some (.cells #[.int .i64 t115, .int .i64 t116, .string t117, .string t118] 34 (0, 0))) := ⟨by (with_reducible repeat (first | refine blk_drewN ?_ _ | refine blk_drew ?_ | refine blk_alloc ?_ _)); refine blk_put (cs := #[.int .i64 t115, .int .i64 t116, .string t117, .string (⟨#[]⟩ : ByteArray)]) ?_ 3 _ rfl; (with_reducible repeat (first | refine blk_drewN ?_ _ | refine blk_drew ?_ | refine blk_alloc ?_ _)); refine blk_put (cs := #[.int .i64 t115, .int .i64 t116, .string (⟨#[]⟩ : ByteArray), .string (⟨#[]⟩ : ByteArray)]) ?_ 2 _ rfl; (with_reducible repeat (first | refine blk_drewN ?_ _ | refine blk_drew ?_ | refine blk_alloc ?_ _)); refine blk_put (cs := #[.int .i64 t115, .int .i64 0, .string (⟨#[]⟩ : ByteArray), .string (⟨#[]⟩ : ByteArray)]) ?_ 1 _ rfl; (with_reducible repeat (first | refine blk_drewN ?_ _ | refine blk_drew ?_ | refine blk_alloc ?_ _)); refine blk_put (cs := #[.int .i64 0, .int .i64 0, .string (⟨#[]⟩ : ByteArray), .string (⟨#[]⟩ : ByteArray)]) ?_ 0 _ rfl; (with_reducible repeat (first | refine blk_drewN ?_ _ | refine blk_drew ?_ | refine blk_alloc ?_ _)); refine blk_far ?_ NB120_119.out _; (with_reducible repeat (first | refine blk_drewN ?_ _ | refine blk_drew ?_ | refine blk_alloc ?_ _)); refine blk_far ?_ NB120_119.out _; (with_reducible repeat (first | refine blk_drewN ?_ _ | refine blk_drew ?_ | refine blk_alloc ?_ _)); refine blk_far ?_ NB120_119.out _; (with_reducible repeat (first | refine blk_drewN ?_ _ | refine blk_drew ?_ | refine blk_alloc ?_ _)); refine blk_far ?_ NB120_119.out _; (with_reducible repeat (first | refine blk_drewN ?_ _ | refine blk_drew ?_ | refine blk_alloc ?_ _)); exact BK120.out⟩
              have n4_ : Aside0 (Below w.heap.size w ((((((((w17.setCell ⟨gb119, 0, none⟩ (.int .i64 t111)).setCell ⟨gb119, 1, none⟩ (.int .i64 t112)).setCell ⟨gb119, 2, none⟩ (.string t113)).setCell ⟨gb119, 3, none⟩ (.string t114)).setCell ⟨gb120, 0, none⟩ (.int .i64 t115)).setCell ⟨gb120, 1, none⟩ (.int .i64 t116)).setCell ⟨gb120, 2, none⟩ (.string t117)).setCell ⟨gb120, 3, none⟩ (.string t118))) := ⟨by repeat (first | (with_reducible first | exact HB.out | apply below_alloc | apply pw_below_drewN | apply below_drew1 | refine below_set ?_ GE109.out | refine below_set ?_ GE110.out | refine below_set ?_ GE119.out | refine below_set ?_ GE120.out) | exact HB.out)⟩
              (try clear BK109)
              (try clear BK110)
              (try clear BK119)
              (try clear BK120)
              (try clear HB)
              generalize ((((((((w17.setCell ⟨gb119, 0, none⟩ (.int .i64 t111)).setCell ⟨gb119, 1, none⟩ (.int .i64 t112)).setCell ⟨gb119, 2, none⟩ (.string t113)).setCell ⟨gb119, 3, none⟩ (.string t114)).setCell ⟨gb120, 0, none⟩ (.int .i64 t115)).setCell ⟨gb120, 1, none⟩ (.int .i64 t116)).setCell ⟨gb120, 2, none⟩ (.string t117)).setCell ⟨gb120, 3, none⟩ (.string t118)) = w35 at n0_ n1_ n2_ n3_ n4_ ⊢
              have BK109 := n0_
              have BK110 := n1_
              have BK119 := n2_
              have BK120 := n3_
              have HB := n4_
              clear n0_ n1_ n2_ n3_ n4_
              have n0_ := Aside0.mk (blk_drew BK109.out)
              have n1_ := Aside0.mk (blk_drew BK110.out)
              have n2_ := Aside0.mk (blk_drew BK119.out)
              have n3_ := Aside0.mk (blk_drew BK120.out)
              have n4_ := Aside0.mk (below_drew1 HB.out)
              clear BK109
              clear BK110
              clear BK119
              clear BK120
              clear HB
              have BK109 := n0_
              have BK110 := n1_
              have BK119 := n2_
              have BK120 := n3_
              have HB := n4_
              clear n0_ n1_ n2_ n3_ n4_
              refine start_ (n := 20) (S := fun w' => w'.cell? ⟨gb109, 0, none⟩ = some (.int .i64 t101) ∧ w'.cell? ⟨gb109, 1, none⟩ = some (.int .i64 t102) ∧ w'.cell? ⟨gb109, 2, none⟩ = some (.string t103) ∧ w'.cell? ⟨gb109, 3, none⟩ = some (.string t104) ∧ w'.cell? ⟨gb110, 0, none⟩ = some (.int .i64 t105) ∧ w'.cell? ⟨gb110, 1, none⟩ = some (.int .i64 t106) ∧ w'.cell? ⟨gb110, 2, none⟩ = some (.string t107) ∧ w'.cell? ⟨gb110, 3, none⟩ = some (.string t108)) (ds := []) #[false, false, false, false, false, false, false, false, false, false, false, false, false, false, false, false, false, false, false, false] (by kernel_rfl) rfl rfl ⟨(blk_cell BK109.out 0).trans rfl, (blk_cell BK109.out 1).trans rfl, (blk_cell BK109.out 2).trans rfl, (blk_cell BK109.out 3).trans rfl, (blk_cell BK110.out 0).trans rfl, (blk_cell BK110.out 1).trans rfl, (blk_cell BK110.out 2).trans rfl, (blk_cell BK110.out 3).trans rfl⟩ (fun hHeld => ?_); refine with_tabW laws_FnBlocks.tab5 laws_FnBlocks.bits5 (fun HT_ HW_ => ?_)
              generalize w35.drew = w36 at BK109 BK110 BK119 BK120 HB hHeld ⊢
              refine take_ (i := 0) (N := some 27) (v := ?_) (a' := ?_) #[true, false, false, false, false, false, false, false, false, false, false, false, false, false, false, false, false, false, false, false] rfl rfl (take_ofW HT_.out HW_.out (by kernel_rfl)) (fun _ _ _ h => h) (Or.inl ⟨by rfl, ?_⟩) hHeld ?_ ?_
              rotate_left
              · rintro w' ⟨s0, s1, s2, s3, s4, s5, s6, s7⟩
                go_simp
                with_reducible rfl
              rotate_left
              · simp only [Act.put, List.setIfInBounds_toArray, List.set_cons_zero, List.set_cons_succ, i64_w, i32_w]
                rfl
              refine take_ (i := 1) (N := some 28) (v := ?_) (a' := ?_) #[true, true, false, false, false, false, false, false, false, false, false, false, false, false, false, false, false, false, false, false] rfl rfl (take_ofW HT_.out HW_.out (by kernel_rfl)) (fun _ _ _ h => h) (Or.inl ⟨by rfl, ?_⟩) hHeld ?_ ?_
              rotate_left
              · rintro w' ⟨s0, s1, s2, s3, s4, s5, s6, s7⟩
                go_simp
                with_reducible rfl
              rotate_left
              · simp only [Act.put, List.setIfInBounds_toArray, List.set_cons_zero, List.set_cons_succ, i64_w, i32_w]
                rfl
              refine take_ (i := 3) (N := some 30) (v := ?_) (a' := ?_) #[true, true, false, true, false, false, false, false, false, false, false, false, false, false, false, false, false, false, false, false] rfl rfl (take_ofW HT_.out HW_.out (by kernel_rfl)) (fun _ _ _ h => h) (Or.inl ⟨by rfl, ?_⟩) hHeld ?_ ?_
              rotate_left
              · rintro w' ⟨s0, s1, s2, s3, s4, s5, s6, s7⟩
                go_simp
                with_reducible rfl
              rotate_left
              · simp only [Act.put, List.setIfInBounds_toArray, List.set_cons_zero, List.set_cons_succ, i64_w, i32_w]
                rfl
              refine take_ (i := 4) (N := some 31) (v := ?_) (a' := ?_) #[true, true, false, true, true, false, false, false, false, false, false, false, false, false, false, false, false, false, false, false] rfl rfl (take_ofW HT_.out HW_.out (by kernel_rfl)) (fun _ _ _ h => h) (Or.inl ⟨by rfl, ?_⟩) hHeld ?_ ?_
              rotate_left
              · rintro w' ⟨s0, s1, s2, s3, s4, s5, s6, s7⟩
                go_simp
                with_reducible rfl
              rotate_left
              · simp only [Act.put, List.setIfInBounds_toArray, List.set_cons_zero, List.set_cons_succ, i64_w, i32_w]
                rfl
              refine one_ (i := 2) (N := some 29) #[true, true, true, true, true, false, false, false, false, false, false, false, false, false, false, false, false, false, false, false] rfl rfl (one_of HT_.out (by kernel_rfl)) (by decide) (fun K hK => ?_)
              refine goes_ Try.func23 (by kernel_rfl) rfl #[.agg #[.int .i64 t101, .int .i64 t102, .string t103, .string t104], .agg #[.int .i64 t105, .int .i64 t106, .string t107, .string t108]] (by rfl) rfl rfl (by (try simp only [List.map_toArray, List.map_cons, List.map_nil]); first | done | rfl | (simp only [List.length_drop, List.length_take]; rfl)) ?_
              with_reducible refine (impl_AddrIn.calls kj2 t101 t102 t103 t104 t105 t106 t107 t108 t121 _ A25.out).mono ?_
              rintro e w37 ⟨rfl, hb⟩
              refine ⟨_, rfl, ?_⟩
              have n0_ := Aside0.mk (blk_below (g := gb109) (o := .cells #[.int .i64 t101, .int .i64 t102, .string t103, .string t104] 34 (0, 0)) (by (with_reducible repeat (first | refine blk_drewN ?_ _ | refine blk_drew ?_ | refine blk_alloc ?_ _)); exact BK109.out) hb)
              have n1_ := Aside0.mk (blk_below (g := gb110) (o := .cells #[.int .i64 t105, .int .i64 t106, .string t107, .string t108] 34 (0, 0)) (by (with_reducible repeat (first | refine blk_drewN ?_ _ | refine blk_drew ?_ | refine blk_alloc ?_ _)); exact BK110.out) hb)
              have n2_ := Aside0.mk (blk_below (g := gb119) (o := .cells #[.int .i64 t111, .int .i64 t112, .string t113, .string t114] 34 (0, 0)) (by (with_reducible repeat (first | refine blk_drewN ?_ _ | refine blk_drew ?_ | refine blk_alloc ?_ _)); exact BK119.out) hb)
              have n3_ := Aside0.mk (blk_below (g := gb120) (o := .cells #[.int .i64 t115, .int .i64 t116, .string t117, .string t118] 34 (0, 0)) (by (with_reducible repeat (first | refine blk_drewN ?_ _ | refine blk_drew ?_ | refine blk_alloc ?_ _)); exact BK120.out) hb)
              have n4_ := Aside0.mk (below_step (by repeat (first | (with_reducible first | exact HB.out | apply below_alloc | apply pw_below_drewN | apply below_drew1 | refine below_set ?_ GE109.out | refine below_set ?_ GE110.out | refine below_set ?_ GE119.out | refine below_set ?_ GE120.out) | exact HB.out)) hb)
              clear BK109
              clear BK110
              clear BK119
              clear BK120
              clear HB
              have BK109 := n0_
              have BK110 := n1_
              have BK119 := n2_
              have BK120 := n3_
              have HB := n4_
              clear n0_ n1_ n2_ n3_ n4_
              (try clear hb)
              (try clear hb2)
              (try clear hk)
              (try clear hi)
              refine hK.out _ _ ⟨(blk_cell BK109.out 0).trans rfl, (blk_cell BK109.out 1).trans rfl, (blk_cell BK109.out 2).trans rfl, (blk_cell BK109.out 3).trans rfl, (blk_cell BK110.out 0).trans rfl, (blk_cell BK110.out 1).trans rfl, (blk_cell BK110.out 2).trans rfl, (blk_cell BK110.out 3).trans rfl⟩ (fun hHeld => ?_)
              clear hK K
              refine norm_ (a' := ?_) ?_ ?_
              rotate_left
              · show Act.put _ (some 29) _ = _
                simp only [Act.put, List.setIfInBounds_toArray, List.set_cons_zero, List.set_cons_succ, i64_w, i32_w]
                rfl
              refine one_ (i := 5) (N := some 32) #[true, true, true, true, true, true, false, false, false, false, false, false, false, false, false, false, false, false, false, false] rfl rfl (one_of HT_.out (by kernel_rfl)) (by decide) (fun K hK => ?_)
              refine goes_ Try.func24 (by kernel_rfl) rfl #[.agg #[.int .i64 t101, .int .i64 t102, .string t103, .string t104], .agg #[.int .i64 t105, .int .i64 t106, .string t107, .string t108]] (by rfl) rfl rfl (by (try simp only [List.map_toArray, List.map_cons, List.map_nil]); first | done | rfl | (simp only [List.length_drop, List.length_take]; rfl)) ?_
              with_reducible refine (spec_AddrIn.calls kj2 t101 t102 t103 t104 t105 t106 t107 t108 t122 _ A26.out).mono ?_
              rintro e w38 ⟨rfl, hb⟩
              refine ⟨_, rfl, ?_⟩
              have n0_ := Aside0.mk (blk_below (g := gb109) (o := .cells #[.int .i64 t101, .int .i64 t102, .string t103, .string t104] 34 (0, 0)) (by (with_reducible repeat (first | refine blk_drewN ?_ _ | refine blk_drew ?_ | refine blk_alloc ?_ _)); exact BK109.out) hb)
              have n1_ := Aside0.mk (blk_below (g := gb110) (o := .cells #[.int .i64 t105, .int .i64 t106, .string t107, .string t108] 34 (0, 0)) (by (with_reducible repeat (first | refine blk_drewN ?_ _ | refine blk_drew ?_ | refine blk_alloc ?_ _)); exact BK110.out) hb)
              have n2_ := Aside0.mk (blk_below (g := gb119) (o := .cells #[.int .i64 t111, .int .i64 t112, .string t113, .string t114] 34 (0, 0)) (by (with_reducible repeat (first | refine blk_drewN ?_ _ | refine blk_drew ?_ | refine blk_alloc ?_ _)); exact BK119.out) hb)
              have n3_ := Aside0.mk (blk_below (g := gb120) (o := .cells #[.int .i64 t115, .int .i64 t116, .string t117, .string t118] 34 (0, 0)) (by (with_reducible repeat (first | refine blk_drewN ?_ _ | refine blk_drew ?_ | refine blk_alloc ?_ _)); exact BK120.out) hb)
              have n4_ := Aside0.mk (below_step (by repeat (first | (with_reducible first | exact HB.out | apply below_alloc | apply pw_below_drewN | apply below_drew1 | refine below_set ?_ GE109.out | refine below_set ?_ GE110.out | refine below_set ?_ GE119.out | refine below_set ?_ GE120.out) | exact HB.out)) hb)
              clear BK109
              clear BK110
              clear BK119
              clear BK120
              clear HB
              have BK109 := n0_
              have BK110 := n1_
              have BK119 := n2_
              have BK120 := n3_
              have HB := n4_
              clear n0_ n1_ n2_ n3_ n4_
              (try clear hb)
              (try clear hb2)
              (try clear hk)
              (try clear hi)
              refine hK.out _ _ ⟨(blk_cell BK109.out 0).trans rfl, (blk_cell BK109.out 1).trans rfl, (blk_cell BK109.out 2).trans rfl, (blk_cell BK109.out 3).trans rfl, (blk_cell BK110.out 0).trans rfl, (blk_cell BK110.out 1).trans rfl, (blk_cell BK110.out 2).trans rfl, (blk_cell BK110.out 3).trans rfl⟩ (fun hHeld => ?_)
              clear hK K
              refine norm_ (a' := ?_) ?_ ?_
              rotate_left
              · show Act.put _ (some 32) _ = _
                simp only [Act.put, List.setIfInBounds_toArray, List.set_cons_zero, List.set_cons_succ, i64_w, i32_w]
                rfl
              refine pure_ (i := 6) (N := some 33) (v := ?_) (a' := ?_) #[true, true, true, true, true, true, true, false, false, false, false, false, false, false, false, false, false, false, false, false] rfl rfl (any_of HT_.out (by kernel_rfl)) (fun _ _ _ h => h) (Or.inl ⟨by rfl, ?_⟩) ?_ ?_
              rotate_left
              · intro w'
                go_simp
                with_reducible rfl
              rotate_left
              · simp only [Act.put, List.setIfInBounds_toArray, List.set_cons_zero, List.set_cons_succ, i64_w, i32_w]
                rfl
              refine pure_ (i := 7) (N := some 34) (v := ?_) (a' := ?_) #[true, true, true, true, true, true, true, true, false, false, false, false, false, false, false, false, false, false, false, false] rfl rfl (any_of HT_.out (by kernel_rfl)) (fun _ _ _ h => h) (Or.inl ⟨by rfl, ?_⟩) ?_ ?_
              rotate_left
              · intro w'
                go_simp
                with_reducible rfl
              rotate_left
              · simp only [Act.put, List.setIfInBounds_toArray, List.set_cons_zero, List.set_cons_succ, i64_w, i32_w]
                rfl
              refine take_ (i := 8) (N := some 35) (v := ?_) (a' := ?_) #[true, true, true, true, true, true, true, true, true, false, false, false, false, false, false, false, false, false, false, false] rfl rfl (take_ofW HT_.out HW_.out (by kernel_rfl)) (fun _ _ _ h => h) (Or.inl ⟨by rfl, ?_⟩) hHeld ?_ ?_
              rotate_left
              · rintro w' ⟨s0, s1, s2, s3, s4, s5, s6, s7⟩
                go_simp
                with_reducible rfl
              rotate_left
              · simp only [Act.put, List.setIfInBounds_toArray, List.set_cons_zero, List.set_cons_succ, i64_w, i32_w]
                rfl
              refine take_ (i := 9) (N := some 36) (v := ?_) (a' := ?_) #[true, true, true, true, true, true, true, true, true, true, false, false, false, false, false, false, false, false, false, false] rfl rfl (take_ofW HT_.out HW_.out (by kernel_rfl)) (fun _ _ _ h => h) (Or.inl ⟨by rfl, ?_⟩) hHeld ?_ ?_
              rotate_left
              · rintro w' ⟨s0, s1, s2, s3, s4, s5, s6, s7⟩
                go_simp
                with_reducible rfl
              rotate_left
              · simp only [Act.put, List.setIfInBounds_toArray, List.set_cons_zero, List.set_cons_succ, i64_w, i32_w]
                rfl
              refine take_ (i := 11) (N := some 38) (v := ?_) (a' := ?_) #[true, true, true, true, true, true, true, true, true, true, false, true, false, false, false, false, false, false, false, false] rfl rfl (take_ofW HT_.out HW_.out (by kernel_rfl)) (fun _ _ _ h => h) (Or.inl ⟨by rfl, ?_⟩) hHeld ?_ ?_
              rotate_left
              · rintro w' ⟨s0, s1, s2, s3, s4, s5, s6, s7⟩
                go_simp
                with_reducible rfl
              rotate_left
              · simp only [Act.put, List.setIfInBounds_toArray, List.set_cons_zero, List.set_cons_succ, i64_w, i32_w]
                rfl
              refine one_ (i := 10) (N := some 37) #[true, true, true, true, true, true, true, true, true, true, true, true, false, false, false, false, false, false, false, false] rfl rfl (one_of HT_.out (by kernel_rfl)) (by decide) (fun K hK => ?_)
              refine goes_ Try.func23 (by kernel_rfl) rfl #[.agg #[.int .i64 t101, .int .i64 t102, .string t103, .string t104], .agg #[.int .i64 t101, .int .i64 t102, .string t103, .string t104]] (by rfl) rfl rfl (by (try simp only [List.map_toArray, List.map_cons, List.map_nil]); first | done | rfl | (simp only [List.length_drop, List.length_take]; rfl)) ?_
              with_reducible refine (impl_AddrIn.calls kj2 t101 t102 t103 t104 t101 t102 t103 t104 t123 _ A32.out).mono ?_
              rintro e w39 ⟨rfl, hb⟩
              refine ⟨_, rfl, ?_⟩
              have n0_ := Aside0.mk (blk_below (g := gb109) (o := .cells #[.int .i64 t101, .int .i64 t102, .string t103, .string t104] 34 (0, 0)) (by (with_reducible repeat (first | refine blk_drewN ?_ _ | refine blk_drew ?_ | refine blk_alloc ?_ _)); exact BK109.out) hb)
              have n1_ := Aside0.mk (blk_below (g := gb110) (o := .cells #[.int .i64 t105, .int .i64 t106, .string t107, .string t108] 34 (0, 0)) (by (with_reducible repeat (first | refine blk_drewN ?_ _ | refine blk_drew ?_ | refine blk_alloc ?_ _)); exact BK110.out) hb)
              have n2_ := Aside0.mk (blk_below (g := gb119) (o := .cells #[.int .i64 t111, .int .i64 t112, .string t113, .string t114] 34 (0, 0)) (by (with_reducible repeat (first | refine blk_drewN ?_ _ | refine blk_drew ?_ | refine blk_alloc ?_ _)); exact BK119.out) hb)
              have n3_ := Aside0.mk (blk_below (g := gb120) (o := .cells #[.int .i64 t115, .int .i64 t116, .string t117, .string t118] 34 (0, 0)) (by (with_reducible repeat (first | refine blk_drewN ?_ _ | refine blk_drew ?_ | refine blk_alloc ?_ _)); exact BK120.out) hb)
              have n4_ := Aside0.mk (below_step (by repeat (first | (with_reducible first | exact HB.out | apply below_alloc | apply pw_below_drewN | apply below_drew1 | refine below_set ?_ GE109.out | refine below_set ?_ GE110.out | refine below_set ?_ GE119.out | refine below_set ?_ GE120.out) | exact HB.out)) hb)
              clear BK109
              clear BK110
              clear BK119
              clear BK120
              clear HB
              have BK109 := n0_
              have BK110 := n1_
              have BK119 := n2_
              have BK120 := n3_
              have HB := n4_
              clear n0_ n1_ n2_ n3_ n4_
              (try clear hb)
              (try clear hb2)
              (try clear hk)
              (try clear hi)
              refine hK.out _ _ ⟨(blk_cell BK109.out 0).trans rfl, (blk_cell BK109.out 1).trans rfl, (blk_cell BK109.out 2).trans rfl, (blk_cell BK109.out 3).trans rfl, (blk_cell BK110.out 0).trans rfl, (blk_cell BK110.out 1).trans rfl, (blk_cell BK110.out 2).trans rfl, (blk_cell BK110.out 3).trans rfl⟩ (fun hHeld => ?_)
              clear hK K
              refine norm_ (a' := ?_) ?_ ?_
              rotate_left
              · show Act.put _ (some 37) _ = _
                simp only [Act.put, List.setIfInBounds_toArray, List.set_cons_zero, List.set_cons_succ, i64_w, i32_w]
                rfl
              refine one_ (i := 12) (N := some 39) #[true, true, true, true, true, true, true, true, true, true, true, true, true, false, false, false, false, false, false, false] rfl rfl (one_of HT_.out (by kernel_rfl)) (by decide) (fun K hK => ?_)
              refine goes_ Try.func25 (by kernel_rfl) rfl #[.agg #[.int .i64 t101, .int .i64 t102, .string t103, .string t104]] (by rfl) rfl rfl (by (try simp only [List.map_toArray, List.map_cons, List.map_nil]); first | done | rfl | (simp only [List.length_drop, List.length_take]; rfl)) ?_
              with_reducible refine (spec_GoodAtom.calls kj2 t101 t102 t103 t104 true _ A33.out).mono ?_
              rintro e w40 ⟨rfl, hb⟩
              refine ⟨_, rfl, ?_⟩
              have n0_ := Aside0.mk (blk_below (g := gb109) (o := .cells #[.int .i64 t101, .int .i64 t102, .string t103, .string t104] 34 (0, 0)) (by (with_reducible repeat (first | refine blk_drewN ?_ _ | refine blk_drew ?_ | refine blk_alloc ?_ _)); exact BK109.out) hb)
              have n1_ := Aside0.mk (blk_below (g := gb110) (o := .cells #[.int .i64 t105, .int .i64 t106, .string t107, .string t108] 34 (0, 0)) (by (with_reducible repeat (first | refine blk_drewN ?_ _ | refine blk_drew ?_ | refine blk_alloc ?_ _)); exact BK110.out) hb)
              have n2_ := Aside0.mk (blk_below (g := gb119) (o := .cells #[.int .i64 t111, .int .i64 t112, .string t113, .string t114] 34 (0, 0)) (by (with_reducible repeat (first | refine blk_drewN ?_ _ | refine blk_drew ?_ | refine blk_alloc ?_ _)); exact BK119.out) hb)
              have n3_ := Aside0.mk (blk_below (g := gb120) (o := .cells #[.int .i64 t115, .int .i64 t116, .string t117, .string t118] 34 (0, 0)) (by (with_reducible repeat (first | refine blk_drewN ?_ _ | refine blk_drew ?_ | refine blk_alloc ?_ _)); exact BK120.out) hb)
              have n4_ := Aside0.mk (below_step (by repeat (first | (with_reducible first | exact HB.out | apply below_alloc | apply pw_below_drewN | apply below_drew1 | refine below_set ?_ GE109.out | refine below_set ?_ GE110.out | refine below_set ?_ GE119.out | refine below_set ?_ GE120.out) | exact HB.out)) hb)
              clear BK109
              clear BK110
              clear BK119
              clear BK120
              clear HB
              have BK109 := n0_
              have BK110 := n1_
              have BK119 := n2_
              have BK120 := n3_
              have HB := n4_
              clear n0_ n1_ n2_ n3_ n4_
              (try clear hb)
              (try clear hb2)
              (try clear hk)
              (try clear hi)
              refine hK.out _ _ ⟨(blk_cell BK109.out 0).trans rfl, (blk_cell BK109.out 1).trans rfl, (blk_cell BK109.out 2).trans rfl, (blk_cell BK109.out 3).trans rfl, (blk_cell BK110.out 0).trans rfl, (blk_cell BK110.out 1).trans rfl, (blk_cell BK110.out 2).trans rfl, (blk_cell BK110.out 3).trans rfl⟩ (fun hHeld => ?_)
              clear hK K
              refine norm_ (a' := ?_) ?_ ?_
              rotate_left
              · show Act.put _ (some 39) _ = _
                simp only [Act.put, List.setIfInBounds_toArray, List.set_cons_zero, List.set_cons_succ, i64_w, i32_w]
                rfl
              refine pure_ (i := 13) (N := some 40) (v := ?_) (a' := ?_) #[true, true, true, true, true, true, true, true, true, true, true, true, true, true, false, false, false, false, false, false] rfl rfl (any_of HT_.out (by kernel_rfl)) (fun _ _ _ h => h) (Or.inl ⟨by rfl, ?_⟩) ?_ ?_
              rotate_left
              · intro w'
                go_simp
                with_reducible rfl
              rotate_left
              · simp only [Act.put, List.setIfInBounds_toArray, List.set_cons_zero, List.set_cons_succ, i64_w, i32_w]
                rfl
              refine pure_ (i := 14) (N := some 41) (v := ?_) (a' := ?_) #[true, true, true, true, true, true, true, true, true, true, true, true, true, true, true, false, false, false, false, false] rfl rfl (any_of HT_.out (by kernel_rfl)) (fun _ _ _ h => h) (Or.inl ⟨by rfl, ?_⟩) ?_ ?_
              rotate_left
              · intro w'
                go_simp
                with_reducible rfl
              rotate_left
              · simp only [Act.put, List.setIfInBounds_toArray, List.set_cons_zero, List.set_cons_succ, i64_w, i32_w]
                rfl
              refine take_ (i := 15) (N := some 42) (v := ?_) (a' := ?_) #[true, true, true, true, true, true, true, true, true, true, true, true, true, true, true, true, false, false, false, false] rfl rfl (take_ofW HT_.out HW_.out (by kernel_rfl)) (fun _ _ _ h => h) (Or.inl ⟨by rfl, ?_⟩) hHeld ?_ ?_
              rotate_left
              · rintro w' ⟨s0, s1, s2, s3, s4, s5, s6, s7⟩
                go_simp
                with_reducible rfl
              rotate_left
              · simp only [Act.put, List.setIfInBounds_toArray, List.set_cons_zero, List.set_cons_succ, i64_w, i32_w]
                rfl
              refine pure_ (i := 16) (N := some 43) (v := ?_) (a' := ?_) #[true, true, true, true, true, true, true, true, true, true, true, true, true, true, true, true, true, false, false, false] rfl rfl (any_of HT_.out (by kernel_rfl)) (fun _ _ _ h => h) (Or.inl ⟨by rfl, ?_⟩) ?_ ?_
              rotate_left
              · intro w'
                go_simp
                with_reducible rfl
              rotate_left
              · simp only [Act.put, List.setIfInBounds_toArray, List.set_cons_zero, List.set_cons_succ, i64_w, i32_w]
                rfl
              refine pure_ (i := 17) (N := some 44) (v := ?_) (a' := ?_) #[true, true, true, true, true, true, true, true, true, true, true, true, true, true, true, true, true, true, false, false] rfl rfl (any_of HT_.out (by kernel_rfl)) (fun _ _ _ h => h) (Or.inl ⟨by rfl, ?_⟩) ?_ ?_
              rotate_left
              · intro w'
                go_simp
                with_reducible rfl
              rotate_left
              · simp only [Act.put, List.setIfInBounds_toArray, List.set_cons_zero, List.set_cons_succ, i64_w, i32_w]
                rfl
              refine pure_ (i := 18) (N := some 45) (v := ?_) (a' := ?_) #[true, true, true, true, true, true, true, true, true, true, true, true, true, true, true, true, true, true, true, false] rfl rfl (any_of HT_.out (by kernel_rfl)) (fun _ _ _ h => h) (Or.inl ⟨by rfl, ?_⟩) ?_ ?_
              rotate_left
              · intro w'
                go_simp
                with_reducible rfl
              rotate_left
              · simp only [Act.put, List.setIfInBounds_toArray, List.set_cons_zero, List.set_cons_succ, i64_w, i32_w]
                rfl
              refine pure_ (i := 19) (N := some 46) (v := ?_) (a' := ?_) #[true, true, true, true, true, true, true, true, true, true, true, true, true, true, true, true, true, true, true, true] rfl rfl (any_of HT_.out (by kernel_rfl)) (fun _ _ _ h => h) (Or.inl ⟨by rfl, ?_⟩) ?_ ?_
              rotate_left
              · intro w'
                go_simp
                with_reducible rfl
              rotate_left
              · simp only [Act.put, List.setIfInBounds_toArray, List.set_cons_zero, List.set_cons_succ, i64_w, i32_w]
                rfl
              refine done_ (done_of HT_.out (by kernel_rfl)) ?_
              try go_wp2
              go_meet
              case rel => exact ⟨_, ((t123 != (t101 == 6))), (by first | rfl | (simp; done) | (simp [*]; done)), H', ⟨by have := HJ2.out; first | omega | exact Nat.le_refl _⟩, ⟨by (with_reducible repeat (first | refine blk_drewN ?_ _ | refine blk_drew ?_ | refine blk_alloc ?_ _)); exact BK109.out⟩, ⟨by (with_reducible repeat (first | refine blk_drewN ?_ _ | refine blk_drew ?_ | refine blk_alloc ?_ _)); exact BK110.out⟩, ⟨by (with_reducible repeat (first | refine blk_drewN ?_ _ | refine blk_drew ?_ | refine blk_alloc ?_ _)); exact BK119.out⟩, ⟨by (with_reducible repeat (first | refine blk_drewN ?_ _ | refine blk_drew ?_ | refine blk_alloc ?_ _)); exact BK120.out⟩, ⟨by repeat (first | (with_reducible first | exact HB.out | apply below_alloc | apply pw_below_drewN | apply below_drew1 | refine below_set ?_ GE109.out | refine below_set ?_ GE110.out | refine below_set ?_ GE119.out | refine below_set ?_ GE120.out) | exact HB.out)⟩⟩
            · replace c34 := Bool.eq_false_iff.mpr c34
              subst c34
              have H1 : (laws_FnBlocks.j1 kj2 (t123 != false) t101 t102 t103 t104 t105 t106 t107 t108 t111 t112 t113 t114) = some r := by rw [if_neg (show ¬ (false = true) by decide)] at H; exact H
              clear H
              have H := H1
              clear H1
              have H' := Aside0.mk H
              clear H
              try go_wp2
              have n0_ : Aside0 (((((((((w17.setCell ⟨gb119, 0, none⟩ (.int .i64 t111)).setCell ⟨gb119, 1, none⟩ (.int .i64 t112)).setCell ⟨gb119, 2, none⟩ (.string t113)).setCell ⟨gb119, 3, none⟩ (.string t114)).setCell ⟨gb120, 0, none⟩ (.int .i64 t115)).setCell ⟨gb120, 1, none⟩ (.int .i64 t116)).setCell ⟨gb120, 2, none⟩ (.string t117)).setCell ⟨gb120, 3, none⟩ (.string t118)).heap[gb109]? = some (.cells #[.int .i64 t101, .int .i64 t102, .string t103, .string t104] 34 (0, 0))) := ⟨by (with_reducible repeat (first | refine blk_drewN ?_ _ | refine blk_drew ?_ | refine blk_alloc ?_ _)); refine blk_far ?_ NB109_120.out _; (with_reducible repeat (first | refine blk_drewN ?_ _ | refine blk_drew ?_ | refine blk_alloc ?_ _)); refine blk_far ?_ NB109_120.out _; (with_reducible repeat (first | refine blk_drewN ?_ _ | refine blk_drew ?_ | refine blk_alloc ?_ _)); refine blk_far ?_ NB109_120.out _; (with_reducible repeat (first | refine blk_drewN ?_ _ | refine blk_drew ?_ | refine blk_alloc ?_ _)); refine blk_far ?_ NB109_120.out _; (with_reducible repeat (first | refine blk_drewN ?_ _ | refine blk_drew ?_ | refine blk_alloc ?_ _)); refine blk_far ?_ NB109_119.out _; (with_reducible repeat (first | refine blk_drewN ?_ _ | refine blk_drew ?_ | refine blk_alloc ?_ _)); refine blk_far ?_ NB109_119.out _; (with_reducible repeat (first | refine blk_drewN ?_ _ | refine blk_drew ?_ | refine blk_alloc ?_ _)); refine blk_far ?_ NB109_119.out _; (with_reducible repeat (first | refine blk_drewN ?_ _ | refine blk_drew ?_ | refine blk_alloc ?_ _)); refine blk_far ?_ NB109_119.out _; (with_reducible repeat (first | refine blk_drewN ?_ _ | refine blk_drew ?_ | refine blk_alloc ?_ _)); exact BK109.out⟩
              have n1_ : Aside0 (((((((((w17.setCell ⟨gb119, 0, none⟩ (.int .i64 t111)).setCell ⟨gb119, 1, none⟩ (.int .i64 t112)).setCell ⟨gb119, 2, none⟩ (.string t113)).setCell ⟨gb119, 3, none⟩ (.string t114)).setCell ⟨gb120, 0, none⟩ (.int .i64 t115)).setCell ⟨gb120, 1, none⟩ (.int .i64 t116)).setCell ⟨gb120, 2, none⟩ (.string t117)).setCell ⟨gb120, 3, none⟩ (.string t118)).heap[gb110]? = some (.cells #[.int .i64 t105, .int .i64 t106, .string t107, .string t108] 34 (0, 0))) := ⟨by (with_reducible repeat (first | refine blk_drewN ?_ _ | refine blk_drew ?_ | refine blk_alloc ?_ _)); refine blk_far ?_ NB110_120.out _; (with_reducible repeat (first | refine blk_drewN ?_ _ | refine blk_drew ?_ | refine blk_alloc ?_ _)); refine blk_far ?_ NB110_120.out _; (with_reducible repeat (first | refine blk_drewN ?_ _ | refine blk_drew ?_ | refine blk_alloc ?_ _)); refine blk_far ?_ NB110_120.out _; (with_reducible repeat (first | refine blk_drewN ?_ _ | refine blk_drew ?_ | refine blk_alloc ?_ _)); refine blk_far ?_ NB110_120.out _; (with_reducible repeat (first | refine blk_drewN ?_ _ | refine blk_drew ?_ | refine blk_alloc ?_ _)); refine blk_far ?_ NB110_119.out _; (with_reducible repeat (first | refine blk_drewN ?_ _ | refine blk_drew ?_ | refine blk_alloc ?_ _)); refine blk_far ?_ NB110_119.out _; (with_reducible repeat (first | refine blk_drewN ?_ _ | refine blk_drew ?_ | refine blk_alloc ?_ _)); refine blk_far ?_ NB110_119.out _; (with_reducible repeat (first | refine blk_drewN ?_ _ | refine blk_drew ?_ | refine blk_alloc ?_ _)); refine blk_far ?_ NB110_119.out _; (with_reducible repeat (first | refine blk_drewN ?_ _ | refine blk_drew ?_ | refine blk_alloc ?_ _)); exact BK110.out⟩
              have n2_ : Aside0 (((((((((w17.setCell ⟨gb119, 0, none⟩ (.int .i64 t111)).setCell ⟨gb119, 1, none⟩ (.int .i64 t112)).setCell ⟨gb119, 2, none⟩ (.string t113)).setCell ⟨gb119, 3, none⟩ (.string t114)).setCell ⟨gb120, 0, none⟩ (.int .i64 t115)).setCell ⟨gb120, 1, none⟩ (.int .i64 t116)).setCell ⟨gb120, 2, none⟩ (.string t117)).setCell ⟨gb120, 3, none⟩ (.string t118)).heap[gb119]? = some (.cells #[.int .i64 t111, .int .i64 t112, .string t113, .string t114] 34 (0, 0))) := ⟨by (with_reducible repeat (first | refine blk_drewN ?_ _ | refine blk_drew ?_ | refine blk_alloc ?_ _)); refine blk_far ?_ NB119_120.out _; (with_reducible repeat (first | refine blk_drewN ?_ _ | refine blk_drew ?_ | refine blk_alloc ?_ _)); refine blk_far ?_ NB119_120.out _; (with_reducible repeat (first | refine blk_drewN ?_ _ | refine blk_drew ?_ | refine blk_alloc ?_ _)); refine blk_far ?_ NB119_120.out _; (with_reducible repeat (first | refine blk_drewN ?_ _ | refine blk_drew ?_ | refine blk_alloc ?_ _)); refine blk_far ?_ NB119_120.out _; (with_reducible repeat (first | refine blk_drewN ?_ _ | refine blk_drew ?_ | refine blk_alloc ?_ _)); refine blk_put (cs := #[.int .i64 t111, .int .i64 t112, .string t113, .string (⟨#[]⟩ : ByteArray)]) ?_ 3 _ rfl; (with_reducible repeat (first | refine blk_drewN ?_ _ | refine blk_drew ?_ | refine blk_alloc ?_ _)); refine blk_put (cs := #[.int .i64 t111, .int .i64 t112, .string (⟨#[]⟩ : ByteArray), .string (⟨#[]⟩ : ByteArray)]) ?_ 2 _ rfl; (with_reducible repeat (first | refine blk_drewN ?_ _ | refine blk_drew ?_ | refine blk_alloc ?_ _)); refine blk_put (cs := #[.int .i64 t111, .int .i64 0, .string (⟨#[]⟩ : ByteArray), .string (⟨#[]⟩ : ByteArray)]) ?_ 1 _ rfl; (with_reducible repeat (first | refine blk_drewN ?_ _ | refine blk_drew ?_ | refine blk_alloc ?_ _)); refine blk_put (cs := #[.int .i64 0, .int .i64 0, .string (⟨#[]⟩ : ByteArray), .string (⟨#[]⟩ : ByteArray)]) ?_ 0 _ rfl; (with_reducible repeat (first | refine blk_drewN ?_ _ | refine blk_drew ?_ | refine blk_alloc ?_ _)); exact BK119.out⟩
              have n3_ : Aside0 (((((((((w17.setCell ⟨gb119, 0, none⟩ (.int .i64 t111)).setCell ⟨gb119, 1, none⟩ (.int .i64 t112)).setCell ⟨gb119, 2, none⟩ (.string t113)).setCell ⟨gb119, 3, none⟩ (.string t114)).setCell ⟨gb120, 0, none⟩ (.int .i64 t115)).setCell ⟨gb120, 1, none⟩ (.int .i64 t116)).setCell ⟨gb120, 2, none⟩ (.string t117)).setCell ⟨gb120, 3, none⟩ (.string t118)).heap[gb120]? = some (.cells #[.int .i64 t115, .int .i64 t116, .string t117, .string t118] 34 (0, 0))) := ⟨by (with_reducible repeat (first | refine blk_drewN ?_ _ | refine blk_drew ?_ | refine blk_alloc ?_ _)); refine blk_put (cs := #[.int .i64 t115, .int .i64 t116, .string t117, .string (⟨#[]⟩ : ByteArray)]) ?_ 3 _ rfl; (with_reducible repeat (first | refine blk_drewN ?_ _ | refine blk_drew ?_ | refine blk_alloc ?_ _)); refine blk_put (cs := #[.int .i64 t115, .int .i64 t116, .string (⟨#[]⟩ : ByteArray), .string (⟨#[]⟩ : ByteArray)]) ?_ 2 _ rfl; (with_reducible repeat (first | refine blk_drewN ?_ _ | refine blk_drew ?_ | refine blk_alloc ?_ _)); refine blk_put (cs := #[.int .i64 t115, .int .i64 0, .string (⟨#[]⟩ : ByteArray), .string (⟨#[]⟩ : ByteArray)]) ?_ 1 _ rfl; (with_reducible repeat (first | refine blk_drewN ?_ _ | refine blk_drew ?_ | refine blk_alloc ?_ _)); refine blk_put (cs := #[.int .i64 0, .int .i64 0, .string (⟨#[]⟩ : ByteArray), .string (⟨#[]⟩ : ByteArray)]) ?_ 0 _ rfl; (with_reducible repeat (first | refine blk_drewN ?_ _ | refine blk_drew ?_ | refine blk_alloc ?_ _)); refine blk_far ?_ NB120_119.out _; (with_reducible repeat (first | refine blk_drewN ?_ _ | refine blk_drew ?_ | refine blk_alloc ?_ _)); refine blk_far ?_ NB120_119.out _; (with_reducible repeat (first | refine blk_drewN ?_ _ | refine blk_drew ?_ | refine blk_alloc ?_ _)); refine blk_far ?_ NB120_119.out _; (with_reducible repeat (first | refine blk_drewN ?_ _ | refine blk_drew ?_ | refine blk_alloc ?_ _)); refine blk_far ?_ NB120_119.out _; (with_reducible repeat (first | refine blk_drewN ?_ _ | refine blk_drew ?_ | refine blk_alloc ?_ _)); exact BK120.out⟩
              have n4_ : Aside0 (Below w.heap.size w ((((((((w17.setCell ⟨gb119, 0, none⟩ (.int .i64 t111)).setCell ⟨gb119, 1, none⟩ (.int .i64 t112)).setCell ⟨gb119, 2, none⟩ (.string t113)).setCell ⟨gb119, 3, none⟩ (.string t114)).setCell ⟨gb120, 0, none⟩ (.int .i64 t115)).setCell ⟨gb120, 1, none⟩ (.int .i64 t116)).setCell ⟨gb120, 2, none⟩ (.string t117)).setCell ⟨gb120, 3, none⟩ (.string t118))) := ⟨by repeat (first | (with_reducible first | exact HB.out | apply below_alloc | apply pw_below_drewN | apply below_drew1 | refine below_set ?_ GE109.out | refine below_set ?_ GE110.out | refine below_set ?_ GE119.out | refine below_set ?_ GE120.out) | exact HB.out)⟩
              (try clear BK109)
              (try clear BK110)
              (try clear BK119)
              (try clear BK120)
              (try clear HB)
              generalize ((((((((w17.setCell ⟨gb119, 0, none⟩ (.int .i64 t111)).setCell ⟨gb119, 1, none⟩ (.int .i64 t112)).setCell ⟨gb119, 2, none⟩ (.string t113)).setCell ⟨gb119, 3, none⟩ (.string t114)).setCell ⟨gb120, 0, none⟩ (.int .i64 t115)).setCell ⟨gb120, 1, none⟩ (.int .i64 t116)).setCell ⟨gb120, 2, none⟩ (.string t117)).setCell ⟨gb120, 3, none⟩ (.string t118)) = w41 at n0_ n1_ n2_ n3_ n4_ ⊢
              have BK109 := n0_
              have BK110 := n1_
              have BK119 := n2_
              have BK120 := n3_
              have HB := n4_
              clear n0_ n1_ n2_ n3_ n4_
              have n0_ := Aside0.mk (blk_drew BK109.out)
              have n1_ := Aside0.mk (blk_drew BK110.out)
              have n2_ := Aside0.mk (blk_drew BK119.out)
              have n3_ := Aside0.mk (blk_drew BK120.out)
              have n4_ := Aside0.mk (below_drew1 HB.out)
              clear BK109
              clear BK110
              clear BK119
              clear BK120
              clear HB
              have BK109 := n0_
              have BK110 := n1_
              have BK119 := n2_
              have BK120 := n3_
              have HB := n4_
              clear n0_ n1_ n2_ n3_ n4_
              refine start_ (n := 20) (S := fun w' => w'.cell? ⟨gb109, 0, none⟩ = some (.int .i64 t101) ∧ w'.cell? ⟨gb109, 1, none⟩ = some (.int .i64 t102) ∧ w'.cell? ⟨gb109, 2, none⟩ = some (.string t103) ∧ w'.cell? ⟨gb109, 3, none⟩ = some (.string t104) ∧ w'.cell? ⟨gb110, 0, none⟩ = some (.int .i64 t105) ∧ w'.cell? ⟨gb110, 1, none⟩ = some (.int .i64 t106) ∧ w'.cell? ⟨gb110, 2, none⟩ = some (.string t107) ∧ w'.cell? ⟨gb110, 3, none⟩ = some (.string t108)) (ds := []) #[false, false, false, false, false, false, false, false, false, false, false, false, false, false, false, false, false, false, false, false] (by kernel_rfl) rfl rfl ⟨(blk_cell BK109.out 0).trans rfl, (blk_cell BK109.out 1).trans rfl, (blk_cell BK109.out 2).trans rfl, (blk_cell BK109.out 3).trans rfl, (blk_cell BK110.out 0).trans rfl, (blk_cell BK110.out 1).trans rfl, (blk_cell BK110.out 2).trans rfl, (blk_cell BK110.out 3).trans rfl⟩ (fun hHeld => ?_); refine with_tabW laws_FnBlocks.tab5 laws_FnBlocks.bits5 (fun HT_ HW_ => ?_)
              generalize w41.drew = w42 at BK109 BK110 BK119 BK120 HB hHeld ⊢
              refine take_ (i := 0) (N := some 27) (v := ?_) (a' := ?_) #[true, false, false, false, false, false, false, false, false, false, false, false, false, false, false, false, false, false, false, false] rfl rfl (take_ofW HT_.out HW_.out (by kernel_rfl)) (fun _ _ _ h => h) (Or.inl ⟨by rfl, ?_⟩) hHeld ?_ ?_
              rotate_left
              · rintro w' ⟨s0, s1, s2, s3, s4, s5, s6, s7⟩
                go_simp
                with_reducible rfl
              rotate_left
              · simp only [Act.put, List.setIfInBounds_toArray, List.set_cons_zero, List.set_cons_succ, i64_w, i32_w]
                rfl
              refine take_ (i := 1) (N := some 28) (v := ?_) (a' := ?_) #[true, true, false, false, false, false, false, false, false, false, false, false, false, false, false, false, false, false, false, false] rfl rfl (take_ofW HT_.out HW_.out (by kernel_rfl)) (fun _ _ _ h => h) (Or.inl ⟨by rfl, ?_⟩) hHeld ?_ ?_
              rotate_left
              · rintro w' ⟨s0, s1, s2, s3, s4, s5, s6, s7⟩
                go_simp
                with_reducible rfl
              rotate_left
              · simp only [Act.put, List.setIfInBounds_toArray, List.set_cons_zero, List.set_cons_succ, i64_w, i32_w]
                rfl
              refine take_ (i := 3) (N := some 30) (v := ?_) (a' := ?_) #[true, true, false, true, false, false, false, false, false, false, false, false, false, false, false, false, false, false, false, false] rfl rfl (take_ofW HT_.out HW_.out (by kernel_rfl)) (fun _ _ _ h => h) (Or.inl ⟨by rfl, ?_⟩) hHeld ?_ ?_
              rotate_left
              · rintro w' ⟨s0, s1, s2, s3, s4, s5, s6, s7⟩
                go_simp
                with_reducible rfl
              rotate_left
              · simp only [Act.put, List.setIfInBounds_toArray, List.set_cons_zero, List.set_cons_succ, i64_w, i32_w]
                rfl
              refine take_ (i := 4) (N := some 31) (v := ?_) (a' := ?_) #[true, true, false, true, true, false, false, false, false, false, false, false, false, false, false, false, false, false, false, false] rfl rfl (take_ofW HT_.out HW_.out (by kernel_rfl)) (fun _ _ _ h => h) (Or.inl ⟨by rfl, ?_⟩) hHeld ?_ ?_
              rotate_left
              · rintro w' ⟨s0, s1, s2, s3, s4, s5, s6, s7⟩
                go_simp
                with_reducible rfl
              rotate_left
              · simp only [Act.put, List.setIfInBounds_toArray, List.set_cons_zero, List.set_cons_succ, i64_w, i32_w]
                rfl
              refine one_ (i := 2) (N := some 29) #[true, true, true, true, true, false, false, false, false, false, false, false, false, false, false, false, false, false, false, false] rfl rfl (one_of HT_.out (by kernel_rfl)) (by decide) (fun K hK => ?_)
              refine goes_ Try.func23 (by kernel_rfl) rfl #[.agg #[.int .i64 t101, .int .i64 t102, .string t103, .string t104], .agg #[.int .i64 t105, .int .i64 t106, .string t107, .string t108]] (by rfl) rfl rfl (by (try simp only [List.map_toArray, List.map_cons, List.map_nil]); first | done | rfl | (simp only [List.length_drop, List.length_take]; rfl)) ?_
              with_reducible refine (impl_AddrIn.calls kj2 t101 t102 t103 t104 t105 t106 t107 t108 t121 _ A25.out).mono ?_
              rintro e w43 ⟨rfl, hb⟩
              refine ⟨_, rfl, ?_⟩
              have n0_ := Aside0.mk (blk_below (g := gb109) (o := .cells #[.int .i64 t101, .int .i64 t102, .string t103, .string t104] 34 (0, 0)) (by (with_reducible repeat (first | refine blk_drewN ?_ _ | refine blk_drew ?_ | refine blk_alloc ?_ _)); exact BK109.out) hb)
              have n1_ := Aside0.mk (blk_below (g := gb110) (o := .cells #[.int .i64 t105, .int .i64 t106, .string t107, .string t108] 34 (0, 0)) (by (with_reducible repeat (first | refine blk_drewN ?_ _ | refine blk_drew ?_ | refine blk_alloc ?_ _)); exact BK110.out) hb)
              have n2_ := Aside0.mk (blk_below (g := gb119) (o := .cells #[.int .i64 t111, .int .i64 t112, .string t113, .string t114] 34 (0, 0)) (by (with_reducible repeat (first | refine blk_drewN ?_ _ | refine blk_drew ?_ | refine blk_alloc ?_ _)); exact BK119.out) hb)
              have n3_ := Aside0.mk (blk_below (g := gb120) (o := .cells #[.int .i64 t115, .int .i64 t116, .string t117, .string t118] 34 (0, 0)) (by (with_reducible repeat (first | refine blk_drewN ?_ _ | refine blk_drew ?_ | refine blk_alloc ?_ _)); exact BK120.out) hb)
              have n4_ := Aside0.mk (below_step (by repeat (first | (with_reducible first | exact HB.out | apply below_alloc | apply pw_below_drewN | apply below_drew1 | refine below_set ?_ GE109.out | refine below_set ?_ GE110.out | refine below_set ?_ GE119.out | refine below_set ?_ GE120.out) | exact HB.out)) hb)
              clear BK109
              clear BK110
              clear BK119
              clear BK120
              clear HB
              have BK109 := n0_
              have BK110 := n1_
              have BK119 := n2_
              have BK120 := n3_
              have HB := n4_
              clear n0_ n1_ n2_ n3_ n4_
              (try clear hb)
              (try clear hb2)
              (try clear hk)
              (try clear hi)
              refine hK.out _ _ ⟨(blk_cell BK109.out 0).trans rfl, (blk_cell BK109.out 1).trans rfl, (blk_cell BK109.out 2).trans rfl, (blk_cell BK109.out 3).trans rfl, (blk_cell BK110.out 0).trans rfl, (blk_cell BK110.out 1).trans rfl, (blk_cell BK110.out 2).trans rfl, (blk_cell BK110.out 3).trans rfl⟩ (fun hHeld => ?_)
              clear hK K
              refine norm_ (a' := ?_) ?_ ?_
              rotate_left
              · show Act.put _ (some 29) _ = _
                simp only [Act.put, List.setIfInBounds_toArray, List.set_cons_zero, List.set_cons_succ, i64_w, i32_w]
                rfl
              refine one_ (i := 5) (N := some 32) #[true, true, true, true, true, true, false, false, false, false, false, false, false, false, false, false, false, false, false, false] rfl rfl (one_of HT_.out (by kernel_rfl)) (by decide) (fun K hK => ?_)
              refine goes_ Try.func24 (by kernel_rfl) rfl #[.agg #[.int .i64 t101, .int .i64 t102, .string t103, .string t104], .agg #[.int .i64 t105, .int .i64 t106, .string t107, .string t108]] (by rfl) rfl rfl (by (try simp only [List.map_toArray, List.map_cons, List.map_nil]); first | done | rfl | (simp only [List.length_drop, List.length_take]; rfl)) ?_
              with_reducible refine (spec_AddrIn.calls kj2 t101 t102 t103 t104 t105 t106 t107 t108 t122 _ A26.out).mono ?_
              rintro e w44 ⟨rfl, hb⟩
              refine ⟨_, rfl, ?_⟩
              have n0_ := Aside0.mk (blk_below (g := gb109) (o := .cells #[.int .i64 t101, .int .i64 t102, .string t103, .string t104] 34 (0, 0)) (by (with_reducible repeat (first | refine blk_drewN ?_ _ | refine blk_drew ?_ | refine blk_alloc ?_ _)); exact BK109.out) hb)
              have n1_ := Aside0.mk (blk_below (g := gb110) (o := .cells #[.int .i64 t105, .int .i64 t106, .string t107, .string t108] 34 (0, 0)) (by (with_reducible repeat (first | refine blk_drewN ?_ _ | refine blk_drew ?_ | refine blk_alloc ?_ _)); exact BK110.out) hb)
              have n2_ := Aside0.mk (blk_below (g := gb119) (o := .cells #[.int .i64 t111, .int .i64 t112, .string t113, .string t114] 34 (0, 0)) (by (with_reducible repeat (first | refine blk_drewN ?_ _ | refine blk_drew ?_ | refine blk_alloc ?_ _)); exact BK119.out) hb)
              have n3_ := Aside0.mk (blk_below (g := gb120) (o := .cells #[.int .i64 t115, .int .i64 t116, .string t117, .string t118] 34 (0, 0)) (by (with_reducible repeat (first | refine blk_drewN ?_ _ | refine blk_drew ?_ | refine blk_alloc ?_ _)); exact BK120.out) hb)
              have n4_ := Aside0.mk (below_step (by repeat (first | (with_reducible first | exact HB.out | apply below_alloc | apply pw_below_drewN | apply below_drew1 | refine below_set ?_ GE109.out | refine below_set ?_ GE110.out | refine below_set ?_ GE119.out | refine below_set ?_ GE120.out) | exact HB.out)) hb)
              clear BK109
              clear BK110
              clear BK119
              clear BK120
              clear HB
              have BK109 := n0_
              have BK110 := n1_
              have BK119 := n2_
              have BK120 := n3_
              have HB := n4_
              clear n0_ n1_ n2_ n3_ n4_
              (try clear hb)
              (try clear hb2)
              (try clear hk)
              (try clear hi)
              refine hK.out _ _ ⟨(blk_cell BK109.out 0).trans rfl, (blk_cell BK109.out 1).trans rfl, (blk_cell BK109.out 2).trans rfl, (blk_cell BK109.out 3).trans rfl, (blk_cell BK110.out 0).trans rfl, (blk_cell BK110.out 1).trans rfl, (blk_cell BK110.out 2).trans rfl, (blk_cell BK110.out 3).trans rfl⟩ (fun hHeld => ?_)
              clear hK K
              refine norm_ (a' := ?_) ?_ ?_
              rotate_left
              · show Act.put _ (some 32) _ = _
                simp only [Act.put, List.setIfInBounds_toArray, List.set_cons_zero, List.set_cons_succ, i64_w, i32_w]
                rfl
              refine pure_ (i := 6) (N := some 33) (v := ?_) (a' := ?_) #[true, true, true, true, true, true, true, false, false, false, false, false, false, false, false, false, false, false, false, false] rfl rfl (any_of HT_.out (by kernel_rfl)) (fun _ _ _ h => h) (Or.inl ⟨by rfl, ?_⟩) ?_ ?_
              rotate_left
              · intro w'
                go_simp
                with_reducible rfl
              rotate_left
              · simp only [Act.put, List.setIfInBounds_toArray, List.set_cons_zero, List.set_cons_succ, i64_w, i32_w]
                rfl
              refine pure_ (i := 7) (N := some 34) (v := ?_) (a' := ?_) #[true, true, true, true, true, true, true, true, false, false, false, false, false, false, false, false, false, false, false, false] rfl rfl (any_of HT_.out (by kernel_rfl)) (fun _ _ _ h => h) (Or.inl ⟨by rfl, ?_⟩) ?_ ?_
              rotate_left
              · intro w'
                go_simp
                with_reducible rfl
              rotate_left
              · simp only [Act.put, List.setIfInBounds_toArray, List.set_cons_zero, List.set_cons_succ, i64_w, i32_w]
                rfl
              refine take_ (i := 8) (N := some 35) (v := ?_) (a' := ?_) #[true, true, true, true, true, true, true, true, true, false, false, false, false, false, false, false, false, false, false, false] rfl rfl (take_ofW HT_.out HW_.out (by kernel_rfl)) (fun _ _ _ h => h) (Or.inl ⟨by rfl, ?_⟩) hHeld ?_ ?_
              rotate_left
              · rintro w' ⟨s0, s1, s2, s3, s4, s5, s6, s7⟩
                go_simp
                with_reducible rfl
              rotate_left
              · simp only [Act.put, List.setIfInBounds_toArray, List.set_cons_zero, List.set_cons_succ, i64_w, i32_w]
                rfl
              refine take_ (i := 9) (N := some 36) (v := ?_) (a' := ?_) #[true, true, true, true, true, true, true, true, true, true, false, false, false, false, false, false, false, false, false, false] rfl rfl (take_ofW HT_.out HW_.out (by kernel_rfl)) (fun _ _ _ h => h) (Or.inl ⟨by rfl, ?_⟩) hHeld ?_ ?_
              rotate_left
              · rintro w' ⟨s0, s1, s2, s3, s4, s5, s6, s7⟩
                go_simp
                with_reducible rfl
              rotate_left
              · simp only [Act.put, List.setIfInBounds_toArray, List.set_cons_zero, List.set_cons_succ, i64_w, i32_w]
                rfl
              refine take_ (i := 11) (N := some 38) (v := ?_) (a' := ?_) #[true, true, true, true, true, true, true, true, true, true, false, true, false, false, false, false, false, false, false, false] rfl rfl (take_ofW HT_.out HW_.out (by kernel_rfl)) (fun _ _ _ h => h) (Or.inl ⟨by rfl, ?_⟩) hHeld ?_ ?_
              rotate_left
              · rintro w' ⟨s0, s1, s2, s3, s4, s5, s6, s7⟩
                go_simp
                with_reducible rfl
              rotate_left
              · simp only [Act.put, List.setIfInBounds_toArray, List.set_cons_zero, List.set_cons_succ, i64_w, i32_w]
                rfl
              refine one_ (i := 10) (N := some 37) #[true, true, true, true, true, true, true, true, true, true, true, true, false, false, false, false, false, false, false, false] rfl rfl (one_of HT_.out (by kernel_rfl)) (by decide) (fun K hK => ?_)
              refine goes_ Try.func23 (by kernel_rfl) rfl #[.agg #[.int .i64 t101, .int .i64 t102, .string t103, .string t104], .agg #[.int .i64 t101, .int .i64 t102, .string t103, .string t104]] (by rfl) rfl rfl (by (try simp only [List.map_toArray, List.map_cons, List.map_nil]); first | done | rfl | (simp only [List.length_drop, List.length_take]; rfl)) ?_
              with_reducible refine (impl_AddrIn.calls kj2 t101 t102 t103 t104 t101 t102 t103 t104 t123 _ A32.out).mono ?_
              rintro e w45 ⟨rfl, hb⟩
              refine ⟨_, rfl, ?_⟩
              have n0_ := Aside0.mk (blk_below (g := gb109) (o := .cells #[.int .i64 t101, .int .i64 t102, .string t103, .string t104] 34 (0, 0)) (by (with_reducible repeat (first | refine blk_drewN ?_ _ | refine blk_drew ?_ | refine blk_alloc ?_ _)); exact BK109.out) hb)
              have n1_ := Aside0.mk (blk_below (g := gb110) (o := .cells #[.int .i64 t105, .int .i64 t106, .string t107, .string t108] 34 (0, 0)) (by (with_reducible repeat (first | refine blk_drewN ?_ _ | refine blk_drew ?_ | refine blk_alloc ?_ _)); exact BK110.out) hb)
              have n2_ := Aside0.mk (blk_below (g := gb119) (o := .cells #[.int .i64 t111, .int .i64 t112, .string t113, .string t114] 34 (0, 0)) (by (with_reducible repeat (first | refine blk_drewN ?_ _ | refine blk_drew ?_ | refine blk_alloc ?_ _)); exact BK119.out) hb)
              have n3_ := Aside0.mk (blk_below (g := gb120) (o := .cells #[.int .i64 t115, .int .i64 t116, .string t117, .string t118] 34 (0, 0)) (by (with_reducible repeat (first | refine blk_drewN ?_ _ | refine blk_drew ?_ | refine blk_alloc ?_ _)); exact BK120.out) hb)
              have n4_ := Aside0.mk (below_step (by repeat (first | (with_reducible first | exact HB.out | apply below_alloc | apply pw_below_drewN | apply below_drew1 | refine below_set ?_ GE109.out | refine below_set ?_ GE110.out | refine below_set ?_ GE119.out | refine below_set ?_ GE120.out) | exact HB.out)) hb)
              clear BK109
              clear BK110
              clear BK119
              clear BK120
              clear HB
              have BK109 := n0_
              have BK110 := n1_
              have BK119 := n2_
              have BK120 := n3_
              have HB := n4_
              clear n0_ n1_ n2_ n3_ n4_
              (try clear hb)
              (try clear hb2)
              (try clear hk)
              (try clear hi)
              refine hK.out _ _ ⟨(blk_cell BK109.out 0).trans rfl, (blk_cell BK109.out 1).trans rfl, (blk_cell BK109.out 2).trans rfl, (blk_cell BK109.out 3).trans rfl, (blk_cell BK110.out 0).trans rfl, (blk_cell BK110.out 1).trans rfl, (blk_cell BK110.out 2).trans rfl, (blk_cell BK110.out 3).trans rfl⟩ (fun hHeld => ?_)
              clear hK K
              refine norm_ (a' := ?_) ?_ ?_
              rotate_left
              · show Act.put _ (some 37) _ = _
                simp only [Act.put, List.setIfInBounds_toArray, List.set_cons_zero, List.set_cons_succ, i64_w, i32_w]
                rfl
              refine one_ (i := 12) (N := some 39) #[true, true, true, true, true, true, true, true, true, true, true, true, true, false, false, false, false, false, false, false] rfl rfl (one_of HT_.out (by kernel_rfl)) (by decide) (fun K hK => ?_)
              refine goes_ Try.func25 (by kernel_rfl) rfl #[.agg #[.int .i64 t101, .int .i64 t102, .string t103, .string t104]] (by rfl) rfl rfl (by (try simp only [List.map_toArray, List.map_cons, List.map_nil]); first | done | rfl | (simp only [List.length_drop, List.length_take]; rfl)) ?_
              with_reducible refine (spec_GoodAtom.calls kj2 t101 t102 t103 t104 false _ A33.out).mono ?_
              rintro e w46 ⟨rfl, hb⟩
              refine ⟨_, rfl, ?_⟩
              have n0_ := Aside0.mk (blk_below (g := gb109) (o := .cells #[.int .i64 t101, .int .i64 t102, .string t103, .string t104] 34 (0, 0)) (by (with_reducible repeat (first | refine blk_drewN ?_ _ | refine blk_drew ?_ | refine blk_alloc ?_ _)); exact BK109.out) hb)
              have n1_ := Aside0.mk (blk_below (g := gb110) (o := .cells #[.int .i64 t105, .int .i64 t106, .string t107, .string t108] 34 (0, 0)) (by (with_reducible repeat (first | refine blk_drewN ?_ _ | refine blk_drew ?_ | refine blk_alloc ?_ _)); exact BK110.out) hb)
              have n2_ := Aside0.mk (blk_below (g := gb119) (o := .cells #[.int .i64 t111, .int .i64 t112, .string t113, .string t114] 34 (0, 0)) (by (with_reducible repeat (first | refine blk_drewN ?_ _ | refine blk_drew ?_ | refine blk_alloc ?_ _)); exact BK119.out) hb)
              have n3_ := Aside0.mk (blk_below (g := gb120) (o := .cells #[.int .i64 t115, .int .i64 t116, .string t117, .string t118] 34 (0, 0)) (by (with_reducible repeat (first | refine blk_drewN ?_ _ | refine blk_drew ?_ | refine blk_alloc ?_ _)); exact BK120.out) hb)
              have n4_ := Aside0.mk (below_step (by repeat (first | (with_reducible first | exact HB.out | apply below_alloc | apply pw_below_drewN | apply below_drew1 | refine below_set ?_ GE109.out | refine below_set ?_ GE110.out | refine below_set ?_ GE119.out | refine below_set ?_ GE120.out) | exact HB.out)) hb)
              clear BK109
              clear BK110
              clear BK119
              clear BK120
              clear HB
              have BK109 := n0_
              have BK110 := n1_
              have BK119 := n2_
              have BK120 := n3_
              have HB := n4_
              clear n0_ n1_ n2_ n3_ n4_
              (try clear hb)
              (try clear hb2)
              (try clear hk)
              (try clear hi)
              refine hK.out _ _ ⟨(blk_cell BK109.out 0).trans rfl, (blk_cell BK109.out 1).trans rfl, (blk_cell BK109.out 2).trans rfl, (blk_cell BK109.out 3).trans rfl, (blk_cell BK110.out 0).trans rfl, (blk_cell BK110.out 1).trans rfl, (blk_cell BK110.out 2).trans rfl, (blk_cell BK110.out 3).trans rfl⟩ (fun hHeld => ?_)
              clear hK K
              refine norm_ (a' := ?_) ?_ ?_
              rotate_left
              · show Act.put _ (some 39) _ = _
                simp only [Act.put, List.setIfInBounds_toArray, List.set_cons_zero, List.set_cons_succ, i64_w, i32_w]
                rfl
              refine pure_ (i := 13) (N := some 40) (v := ?_) (a' := ?_) #[true, true, true, true, true, true, true, true, true, true, true, true, true, true, false, false, false, false, false, false] rfl rfl (any_of HT_.out (by kernel_rfl)) (fun _ _ _ h => h) (Or.inl ⟨by rfl, ?_⟩) ?_ ?_
              rotate_left
              · intro w'
                go_simp
                with_reducible rfl
              rotate_left
              · simp only [Act.put, List.setIfInBounds_toArray, List.set_cons_zero, List.set_cons_succ, i64_w, i32_w]
                rfl
              refine pure_ (i := 14) (N := some 41) (v := undef) (a' := ?_) #[true, true, true, true, true, true, true, true, true, true, true, true, true, true, true, false, false, false, false, false] rfl rfl (any_of HT_.out (by kernel_rfl)) (fun _ _ _ h => h) (Or.inr ⟨by rfl, rfl⟩) ?_ ?_
              rotate_left
              · simp only [Act.put, List.setIfInBounds_toArray, List.set_cons_zero, List.set_cons_succ, i64_w, i32_w]
                rfl
              refine pure_ (i := 15) (N := some 42) (v := undef) (a' := ?_) #[true, true, true, true, true, true, true, true, true, true, true, true, true, true, true, true, false, false, false, false] rfl rfl (any_of HT_.out (by kernel_rfl)) (fun _ _ _ h => h) (Or.inr ⟨by rfl, rfl⟩) ?_ ?_
              rotate_left
              · simp only [Act.put, List.setIfInBounds_toArray, List.set_cons_zero, List.set_cons_succ, i64_w, i32_w]
                rfl
              refine pure_ (i := 16) (N := some 43) (v := undef) (a' := ?_) #[true, true, true, true, true, true, true, true, true, true, true, true, true, true, true, true, true, false, false, false] rfl rfl (any_of HT_.out (by kernel_rfl)) (fun _ _ _ h => h) (Or.inr ⟨by rfl, rfl⟩) ?_ ?_
              rotate_left
              · simp only [Act.put, List.setIfInBounds_toArray, List.set_cons_zero, List.set_cons_succ, i64_w, i32_w]
                rfl
              refine pure_ (i := 17) (N := some 44) (v := ?_) (a' := ?_) #[true, true, true, true, true, true, true, true, true, true, true, true, true, true, true, true, true, true, false, false] rfl rfl (any_of HT_.out (by kernel_rfl)) (fun _ _ _ h => h) (Or.inl ⟨by rfl, ?_⟩) ?_ ?_
              rotate_left
              · intro w'
                go_simp
                with_reducible rfl
              rotate_left
              · simp only [Act.put, List.setIfInBounds_toArray, List.set_cons_zero, List.set_cons_succ, i64_w, i32_w]
                rfl
              refine pure_ (i := 18) (N := some 45) (v := ?_) (a' := ?_) #[true, true, true, true, true, true, true, true, true, true, true, true, true, true, true, true, true, true, true, false] rfl rfl (any_of HT_.out (by kernel_rfl)) (fun _ _ _ h => h) (Or.inl ⟨by rfl, ?_⟩) ?_ ?_
              rotate_left
              · intro w'
                go_simp
                with_reducible rfl
              rotate_left
              · simp only [Act.put, List.setIfInBounds_toArray, List.set_cons_zero, List.set_cons_succ, i64_w, i32_w]
                rfl
              refine pure_ (i := 19) (N := some 46) (v := ?_) (a' := ?_) #[true, true, true, true, true, true, true, true, true, true, true, true, true, true, true, true, true, true, true, true] rfl rfl (any_of HT_.out (by kernel_rfl)) (fun _ _ _ h => h) (Or.inl ⟨by rfl, ?_⟩) ?_ ?_
              rotate_left
              · intro w'
                go_simp
                with_reducible rfl
              rotate_left
              · simp only [Act.put, List.setIfInBounds_toArray, List.set_cons_zero, List.set_cons_succ, i64_w, i32_w]
                rfl
              refine done_ (done_of HT_.out (by kernel_rfl)) ?_
              try go_wp2
              go_meet
              case rel => exact ⟨_, ((t123 != false)), (by first | rfl | (simp; done) | (simp [*]; done)), H', ⟨by have := HJ2.out; first | omega | exact Nat.le_refl _⟩, ⟨by (with_reducible repeat (first | refine blk_drewN ?_ _ | refine blk_drew ?_ | refine blk_alloc ?_ _)); exact BK109.out⟩, ⟨by (with_reducible repeat (first | refine blk_drewN ?_ _ | refine blk_drew ?_ | refine blk_alloc ?_ _)); exact BK110.out⟩, ⟨by (with_reducible repeat (first | refine blk_drewN ?_ _ | refine blk_drew ?_ | refine blk_alloc ?_ _)); exact BK119.out⟩, ⟨by (with_reducible repeat (first | refine blk_drewN ?_ _ | refine blk_drew ?_ | refine blk_alloc ?_ _)); exact BK120.out⟩, ⟨by repeat (first | (with_reducible first | exact HB.out | apply below_alloc | apply pw_below_drewN | apply below_drew1 | refine below_set ?_ GE109.out | refine below_set ?_ GE110.out | refine below_set ?_ GE119.out | refine below_set ?_ GE120.out) | exact HB.out)⟩⟩
        case rest =>
          clear HC8
          try clear c2
          try clear p2
          try clear c3
          try clear c23
          try clear c24
          try clear c25
          try clear c34
          obtain ⟨kq, x46_7, rfl, HA, HJ7, BK109, BK110, BK119, BK120, HB⟩ := hcut
          cases kq with
          | zero => exact absurd HA.out (by simp [laws_FnBlocks.j1])
          | succ kj7 =>
            have H := HA.out
            clear HA
            simp only [laws_FnBlocks.j1] at H
            by_cases c47 : x46_7 = true
            · subst c47
              have H1 : (none) = some r := by rw [if_pos rfl] at H; exact H
              clear H
              have H := H1
              clear H1
              exact absurd H (by simp)
            · replace c47 := Bool.eq_false_iff.mpr c47
              subst c47
              have H1 : ((impl_AddrIn.f kj7 t101 t102 t103 t104 t105 t106 t107 t108).bind fun t125 => (if t125 = true then ((impl_AddrIn.f kj7 t105 t106 t107 t108 t101 t102 t103 t104).bind fun t126 => (if t126 = true then (laws_FnBlocks.j2 kj7 (!(t101 == t105) || (!(t102 == t106) || (!(t103.toList == t107.toList) || (!(t104.toList == t108.toList))))) t101 t102 t103 t104 t105 t106 t107 t108 t111 t112 t113 t114) else (laws_FnBlocks.j2 kj7 false t101 t102 t103 t104 t105 t106 t107 t108 t111 t112 t113 t114))) else (laws_FnBlocks.j2 kj7 false t101 t102 t103 t104 t105 t106 t107 t108 t111 t112 t113 t114))) = some r := by rw [if_neg (show ¬ (false = true) by decide)] at H; exact H
              clear H
              have H := H1
              clear H1
              have HC48 := Aside0.mk H
              clear H
              go_upto_region 7 with (fail)
              go_cut [59] (fun v59 wc => ∃ (kq : Nat) (x59_47 : Bool), v59 = .bool x59_47 ∧ Aside0 (laws_FnBlocks.j2 kq x59_47 t101 t102 t103 t104 t105 t106 t107 t108 t111 t112 t113 t114 = some r) ∧ Aside0 (kq ≤ kj7) ∧ Aside0 (wc.heap[gb109]? = some (.cells #[.int .i64 t101, .int .i64 t102, .string t103, .string t104] 34 (0, 0))) ∧ Aside0 (wc.heap[gb110]? = some (.cells #[.int .i64 t105, .int .i64 t106, .string t107, .string t108] 34 (0, 0))) ∧ Aside0 (wc.heap[gb119]? = some (.cells #[.int .i64 t111, .int .i64 t112, .string t113, .string t114] 34 (0, 0))) ∧ Aside0 (wc.heap[gb120]? = some (.cells #[.int .i64 t115, .int .i64 t116, .string t117, .string t118] 34 (0, 0))) ∧ Aside0 (Below w.heap.size w wc))
              case first =>
                have H := HC48.out
                clear HC48
                replace H := Option.bind_eq_some_iff.mp H
                obtain ⟨t125, A490, H⟩ := H
                replace H : (if t125 = true then ((impl_AddrIn.f kj7 t105 t106 t107 t108 t101 t102 t103 t104).bind fun t126 => (if t126 = true then (laws_FnBlocks.j2 kj7 (!(t101 == t105) || (!(t102 == t106) || (!(t103.toList == t107.toList) || (!(t104.toList == t108.toList))))) t101 t102 t103 t104 t105 t106 t107 t108 t111 t112 t113 t114) else (laws_FnBlocks.j2 kj7 false t101 t102 t103 t104 t105 t106 t107 t108 t111 t112 t113 t114))) else (laws_FnBlocks.j2 kj7 false t101 t102 t103 t104 t105 t106 t107 t108 t111 t112 t113 t114)) = some r := H
                have A49 := Aside0.mk A490
                clear A490
                by_cases c50 : t125 = true
                · subst c50
                  have H1 : ((impl_AddrIn.f kj7 t105 t106 t107 t108 t101 t102 t103 t104).bind fun t126 => (if t126 = true then (laws_FnBlocks.j2 kj7 (!(t101 == t105) || (!(t102 == t106) || (!(t103.toList == t107.toList) || (!(t104.toList == t108.toList))))) t101 t102 t103 t104 t105 t106 t107 t108 t111 t112 t113 t114) else (laws_FnBlocks.j2 kj7 false t101 t102 t103 t104 t105 t106 t107 t108 t111 t112 t113 t114))) = some r := by rw [if_pos rfl] at H; exact H
                  clear H
                  have H := H1
                  clear H1
                  replace H := Option.bind_eq_some_iff.mp H
                  obtain ⟨t126, A510, H⟩ := H
                  replace H : (if t126 = true then (laws_FnBlocks.j2 kj7 (!(t101 == t105) || (!(t102 == t106) || (!(t103.toList == t107.toList) || (!(t104.toList == t108.toList))))) t101 t102 t103 t104 t105 t106 t107 t108 t111 t112 t113 t114) else (laws_FnBlocks.j2 kj7 false t101 t102 t103 t104 t105 t106 t107 t108 t111 t112 t113 t114)) = some r := H
                  have A51 := Aside0.mk A510
                  clear A510
                  by_cases c52 : t126 = true
                  · subst c52
                    have H1 : (laws_FnBlocks.j2 kj7 (!(t101 == t105) || (!(t102 == t106) || (!(t103.toList == t107.toList) || (!(t104.toList == t108.toList))))) t101 t102 t103 t104 t105 t106 t107 t108 t111 t112 t113 t114) = some r := by rw [if_pos rfl] at H; exact H
                    clear H
                    have H := H1
                    clear H1
                    have H' := Aside0.mk H
                    clear H
                    have hnb53 := NB109_110.out
                    have hnc53 := NB110_109.out
                    have hnb54 := NB109_119.out
                    have hnc54 := NB119_109.out
                    have hnb55 := NB109_120.out
                    have hnc55 := NB120_109.out
                    have hcz56_0 : wc.cell? ⟨gb109, 0, none⟩ = some (.int .i64 t101) := (blk_cell BK109.out 0).trans rfl
                    have hcz56_1 : wc.cell? ⟨gb109, 1, none⟩ = some (.int .i64 t102) := (blk_cell BK109.out 1).trans rfl
                    have hcz56_2 : wc.cell? ⟨gb109, 2, none⟩ = some (.string t103) := (blk_cell BK109.out 2).trans rfl
                    have hcz56_3 : wc.cell? ⟨gb109, 3, none⟩ = some (.string t104) := (blk_cell BK109.out 3).trans rfl
                    have hfz56_0 := blk_frozen BK109.out 0
                    have hfz56_1 := blk_frozen BK109.out 1
                    have hfz56_2 := blk_frozen BK109.out 2
                    have hfz56_3 := blk_frozen BK109.out 3
                    have hnb57 := NB110_119.out
                    have hnc57 := NB119_110.out
                    have hnb58 := NB110_120.out
                    have hnc58 := NB120_110.out
                    have hcz59_0 : wc.cell? ⟨gb110, 0, none⟩ = some (.int .i64 t105) := (blk_cell BK110.out 0).trans rfl
                    have hcz59_1 : wc.cell? ⟨gb110, 1, none⟩ = some (.int .i64 t106) := (blk_cell BK110.out 1).trans rfl
                    have hcz59_2 : wc.cell? ⟨gb110, 2, none⟩ = some (.string t107) := (blk_cell BK110.out 2).trans rfl
                    have hcz59_3 : wc.cell? ⟨gb110, 3, none⟩ = some (.string t108) := (blk_cell BK110.out 3).trans rfl
                    have hfz59_0 := blk_frozen BK110.out 0
                    have hfz59_1 := blk_frozen BK110.out 1
                    have hfz59_2 := blk_frozen BK110.out 2
                    have hfz59_3 := blk_frozen BK110.out 3
                    go_wp2_with (first | ((with_reducible refine gate_callee (f := 23) rfl ?_); refine goesL_ (some 49) rfl rfl Try.func23 (by kernel_rfl) rfl #[.agg #[.int .i64 t101, .int .i64 t102, .string t103, .string t104], .agg #[.int .i64 t105, .int .i64 t106, .string t107, .string t108]] rfl (by (try simp only [List.map_toArray, List.map_cons, List.map_nil]); first | done | rfl | (simp only [List.length_drop, List.length_take]; rfl)) ?_; (with_reducible refine (impl_AddrIn.calls kj7 t101 t102 t103 t104 t105 t106 t107 t108 true _ A49.out).mono ?_); rintro e w60 ⟨rfl, hb⟩; refine ⟨_, rfl, ?_⟩; have n0_ := Aside0.mk (blk_below (g := gb109) (o := .cells #[.int .i64 t101, .int .i64 t102, .string t103, .string t104] 34 (0, 0)) (by (with_reducible repeat (first | refine blk_drewN ?_ _ | refine blk_drew ?_ | refine blk_alloc ?_ _)); exact BK109.out) hb); have n1_ := Aside0.mk (blk_below (g := gb110) (o := .cells #[.int .i64 t105, .int .i64 t106, .string t107, .string t108] 34 (0, 0)) (by (with_reducible repeat (first | refine blk_drewN ?_ _ | refine blk_drew ?_ | refine blk_alloc ?_ _)); exact BK110.out) hb); have n2_ := Aside0.mk (blk_below (g := gb119) (o := .cells #[.int .i64 t111, .int .i64 t112, .string t113, .string t114] 34 (0, 0)) (by (with_reducible repeat (first | refine blk_drewN ?_ _ | refine blk_drew ?_ | refine blk_alloc ?_ _)); exact BK119.out) hb); have n3_ := Aside0.mk (blk_below (g := gb120) (o := .cells #[.int .i64 t115, .int .i64 t116, .string t117, .string t118] 34 (0, 0)) (by (with_reducible repeat (first | refine blk_drewN ?_ _ | refine blk_drew ?_ | refine blk_alloc ?_ _)); exact BK120.out) hb); have n4_ := Aside0.mk (below_step (by repeat (first | (with_reducible first | exact HB.out | apply below_alloc | apply pw_below_drewN | apply below_drew1 | refine below_set ?_ GE109.out | refine below_set ?_ GE110.out | refine below_set ?_ GE119.out | refine below_set ?_ GE120.out) | exact HB.out)) hb); clear BK109; clear BK110; clear BK119; clear BK120; clear HB; have BK109 := n0_; have BK110 := n1_; have BK119 := n2_; have BK120 := n3_; have HB := n4_; clear n0_ n1_ n2_ n3_ n4_; (try clear hb); (try clear hb2); (try clear hk); (try clear hi); have hcz61_0 : w60.cell? ⟨gb110, 0, none⟩ = some (.int .i64 t105) := (blk_cell BK110.out 0).trans rfl; have hcz61_1 : w60.cell? ⟨gb110, 1, none⟩ = some (.int .i64 t106) := (blk_cell BK110.out 1).trans rfl; have hcz61_2 : w60.cell? ⟨gb110, 2, none⟩ = some (.string t107) := (blk_cell BK110.out 2).trans rfl; have hcz61_3 : w60.cell? ⟨gb110, 3, none⟩ = some (.string t108) := (blk_cell BK110.out 3).trans rfl; have hfz61_0 := blk_frozen BK110.out 0; have hfz61_1 := blk_frozen BK110.out 1; have hfz61_2 := blk_frozen BK110.out 2; have hfz61_3 := blk_frozen BK110.out 3; have hcz62_0 : w60.cell? ⟨gb109, 0, none⟩ = some (.int .i64 t101) := (blk_cell BK109.out 0).trans rfl; have hcz62_1 : w60.cell? ⟨gb109, 1, none⟩ = some (.int .i64 t102) := (blk_cell BK109.out 1).trans rfl; have hcz62_2 : w60.cell? ⟨gb109, 2, none⟩ = some (.string t103) := (blk_cell BK109.out 2).trans rfl; have hcz62_3 : w60.cell? ⟨gb109, 3, none⟩ = some (.string t104) := (blk_cell BK109.out 3).trans rfl; have hfz62_0 := blk_frozen BK109.out 0; have hfz62_1 := blk_frozen BK109.out 1; have hfz62_2 := blk_frozen BK109.out 2; have hfz62_3 := blk_frozen BK109.out 3) | (go_at_call 23; (with_reducible refine (impl_AddrIn.calls kj7 t105 t106 t107 t108 t101 t102 t103 t104 true _ A51.out).mono ?_); rintro e w63 ⟨rfl, hb⟩; have n0_ := Aside0.mk (blk_below (g := gb109) (o := .cells #[.int .i64 t101, .int .i64 t102, .string t103, .string t104] 34 (0, 0)) (by (with_reducible repeat (first | refine blk_drewN ?_ _ | refine blk_drew ?_ | refine blk_alloc ?_ _)); exact BK109.out) hb); have n1_ := Aside0.mk (blk_below (g := gb110) (o := .cells #[.int .i64 t105, .int .i64 t106, .string t107, .string t108] 34 (0, 0)) (by (with_reducible repeat (first | refine blk_drewN ?_ _ | refine blk_drew ?_ | refine blk_alloc ?_ _)); exact BK110.out) hb); have n2_ := Aside0.mk (blk_below (g := gb119) (o := .cells #[.int .i64 t111, .int .i64 t112, .string t113, .string t114] 34 (0, 0)) (by (with_reducible repeat (first | refine blk_drewN ?_ _ | refine blk_drew ?_ | refine blk_alloc ?_ _)); exact BK119.out) hb); have n3_ := Aside0.mk (blk_below (g := gb120) (o := .cells #[.int .i64 t115, .int .i64 t116, .string t117, .string t118] 34 (0, 0)) (by (with_reducible repeat (first | refine blk_drewN ?_ _ | refine blk_drew ?_ | refine blk_alloc ?_ _)); exact BK120.out) hb); have n4_ := Aside0.mk (below_step (by repeat (first | (with_reducible first | exact HB.out | apply below_alloc | apply pw_below_drewN | apply below_drew1 | refine below_set ?_ GE109.out | refine below_set ?_ GE110.out | refine below_set ?_ GE119.out | refine below_set ?_ GE120.out) | exact HB.out)) hb); clear BK109; clear BK110; clear BK119; clear BK120; clear HB; have BK109 := n0_; have BK110 := n1_; have BK119 := n2_; have BK120 := n3_; have HB := n4_; clear n0_ n1_ n2_ n3_ n4_; (try clear hb); (try clear hb2); (try clear hk); (try clear hi); have hcz64_0 : w63.cell? ⟨gb109, 0, none⟩ = some (.int .i64 t101) := (blk_cell BK109.out 0).trans rfl; have hcz64_1 : w63.cell? ⟨gb109, 1, none⟩ = some (.int .i64 t102) := (blk_cell BK109.out 1).trans rfl; have hcz64_2 : w63.cell? ⟨gb109, 2, none⟩ = some (.string t103) := (blk_cell BK109.out 2).trans rfl; have hcz64_3 : w63.cell? ⟨gb109, 3, none⟩ = some (.string t104) := (blk_cell BK109.out 3).trans rfl; have hfz64_0 := blk_frozen BK109.out 0; have hfz64_1 := blk_frozen BK109.out 1; have hfz64_2 := blk_frozen BK109.out 2; have hfz64_3 := blk_frozen BK109.out 3; have hcz65_0 : w63.cell? ⟨gb110, 0, none⟩ = some (.int .i64 t105) := (blk_cell BK110.out 0).trans rfl; have hcz65_1 : w63.cell? ⟨gb110, 1, none⟩ = some (.int .i64 t106) := (blk_cell BK110.out 1).trans rfl; have hcz65_2 : w63.cell? ⟨gb110, 2, none⟩ = some (.string t107) := (blk_cell BK110.out 2).trans rfl; have hcz65_3 : w63.cell? ⟨gb110, 3, none⟩ = some (.string t108) := (blk_cell BK110.out 3).trans rfl; have hfz65_0 := blk_frozen BK110.out 0; have hfz65_1 := blk_frozen BK110.out 1; have hfz65_2 := blk_frozen BK110.out 2; have hfz65_3 := blk_frozen BK110.out 3))
                    go_meet
                    case rel => exact ⟨_, ((!(t101 == t105) || (!(t102 == t106) || (!(t103.toList == t107.toList) || (!(t104.toList == t108.toList)))))), (by first | rfl | (simp; done) | (simp [*]; done)), H', ⟨by have := HJ2.out; have := HJ7.out; first | omega | exact Nat.le_refl _⟩, ⟨by (with_reducible repeat (first | refine blk_drewN ?_ _ | refine blk_drew ?_ | refine blk_alloc ?_ _)); exact BK109.out⟩, ⟨by (with_reducible repeat (first | refine blk_drewN ?_ _ | refine blk_drew ?_ | refine blk_alloc ?_ _)); exact BK110.out⟩, ⟨by (with_reducible repeat (first | refine blk_drewN ?_ _ | refine blk_drew ?_ | refine blk_alloc ?_ _)); exact BK119.out⟩, ⟨by (with_reducible repeat (first | refine blk_drewN ?_ _ | refine blk_drew ?_ | refine blk_alloc ?_ _)); exact BK120.out⟩, ⟨by repeat (first | (with_reducible first | exact HB.out | apply below_alloc | apply pw_below_drewN | apply below_drew1 | refine below_set ?_ GE109.out | refine below_set ?_ GE110.out | refine below_set ?_ GE119.out | refine below_set ?_ GE120.out) | exact HB.out)⟩⟩
                  · replace c52 := Bool.eq_false_iff.mpr c52
                    subst c52
                    have H1 : (laws_FnBlocks.j2 kj7 false t101 t102 t103 t104 t105 t106 t107 t108 t111 t112 t113 t114) = some r := by rw [if_neg (show ¬ (false = true) by decide)] at H; exact H
                    clear H
                    have H := H1
                    clear H1
                    have H' := Aside0.mk H
                    clear H
                    have hnb66 := NB109_110.out
                    have hnc66 := NB110_109.out
                    have hnb67 := NB109_119.out
                    have hnc67 := NB119_109.out
                    have hnb68 := NB109_120.out
                    have hnc68 := NB120_109.out
                    have hcz69_0 : wc.cell? ⟨gb109, 0, none⟩ = some (.int .i64 t101) := (blk_cell BK109.out 0).trans rfl
                    have hcz69_1 : wc.cell? ⟨gb109, 1, none⟩ = some (.int .i64 t102) := (blk_cell BK109.out 1).trans rfl
                    have hcz69_2 : wc.cell? ⟨gb109, 2, none⟩ = some (.string t103) := (blk_cell BK109.out 2).trans rfl
                    have hcz69_3 : wc.cell? ⟨gb109, 3, none⟩ = some (.string t104) := (blk_cell BK109.out 3).trans rfl
                    have hfz69_0 := blk_frozen BK109.out 0
                    have hfz69_1 := blk_frozen BK109.out 1
                    have hfz69_2 := blk_frozen BK109.out 2
                    have hfz69_3 := blk_frozen BK109.out 3
                    have hnb70 := NB110_119.out
                    have hnc70 := NB119_110.out
                    have hnb71 := NB110_120.out
                    have hnc71 := NB120_110.out
                    have hcz72_0 : wc.cell? ⟨gb110, 0, none⟩ = some (.int .i64 t105) := (blk_cell BK110.out 0).trans rfl
                    have hcz72_1 : wc.cell? ⟨gb110, 1, none⟩ = some (.int .i64 t106) := (blk_cell BK110.out 1).trans rfl
                    have hcz72_2 : wc.cell? ⟨gb110, 2, none⟩ = some (.string t107) := (blk_cell BK110.out 2).trans rfl
                    have hcz72_3 : wc.cell? ⟨gb110, 3, none⟩ = some (.string t108) := (blk_cell BK110.out 3).trans rfl
                    have hfz72_0 := blk_frozen BK110.out 0
                    have hfz72_1 := blk_frozen BK110.out 1
                    have hfz72_2 := blk_frozen BK110.out 2
                    have hfz72_3 := blk_frozen BK110.out 3
                    go_wp2_with (first | ((with_reducible refine gate_callee (f := 23) rfl ?_); refine goesL_ (some 49) rfl rfl Try.func23 (by kernel_rfl) rfl #[.agg #[.int .i64 t101, .int .i64 t102, .string t103, .string t104], .agg #[.int .i64 t105, .int .i64 t106, .string t107, .string t108]] rfl (by (try simp only [List.map_toArray, List.map_cons, List.map_nil]); first | done | rfl | (simp only [List.length_drop, List.length_take]; rfl)) ?_; (with_reducible refine (impl_AddrIn.calls kj7 t101 t102 t103 t104 t105 t106 t107 t108 true _ A49.out).mono ?_); rintro e w73 ⟨rfl, hb⟩; refine ⟨_, rfl, ?_⟩; have n0_ := Aside0.mk (blk_below (g := gb109) (o := .cells #[.int .i64 t101, .int .i64 t102, .string t103, .string t104] 34 (0, 0)) (by (with_reducible repeat (first | refine blk_drewN ?_ _ | refine blk_drew ?_ | refine blk_alloc ?_ _)); exact BK109.out) hb); have n1_ := Aside0.mk (blk_below (g := gb110) (o := .cells #[.int .i64 t105, .int .i64 t106, .string t107, .string t108] 34 (0, 0)) (by (with_reducible repeat (first | refine blk_drewN ?_ _ | refine blk_drew ?_ | refine blk_alloc ?_ _)); exact BK110.out) hb); have n2_ := Aside0.mk (blk_below (g := gb119) (o := .cells #[.int .i64 t111, .int .i64 t112, .string t113, .string t114] 34 (0, 0)) (by (with_reducible repeat (first | refine blk_drewN ?_ _ | refine blk_drew ?_ | refine blk_alloc ?_ _)); exact BK119.out) hb); have n3_ := Aside0.mk (blk_below (g := gb120) (o := .cells #[.int .i64 t115, .int .i64 t116, .string t117, .string t118] 34 (0, 0)) (by (with_reducible repeat (first | refine blk_drewN ?_ _ | refine blk_drew ?_ | refine blk_alloc ?_ _)); exact BK120.out) hb); have n4_ := Aside0.mk (below_step (by repeat (first | (with_reducible first | exact HB.out | apply below_alloc | apply pw_below_drewN | apply below_drew1 | refine below_set ?_ GE109.out | refine below_set ?_ GE110.out | refine below_set ?_ GE119.out | refine below_set ?_ GE120.out) | exact HB.out)) hb); clear BK109; clear BK110; clear BK119; clear BK120; clear HB; have BK109 := n0_; have BK110 := n1_; have BK119 := n2_; have BK120 := n3_; have HB := n4_; clear n0_ n1_ n2_ n3_ n4_; (try clear hb); (try clear hb2); (try clear hk); (try clear hi); have hcz74_0 : w73.cell? ⟨gb110, 0, none⟩ = some (.int .i64 t105) := (blk_cell BK110.out 0).trans rfl; have hcz74_1 : w73.cell? ⟨gb110, 1, none⟩ = some (.int .i64 t106) := (blk_cell BK110.out 1).trans rfl; have hcz74_2 : w73.cell? ⟨gb110, 2, none⟩ = some (.string t107) := (blk_cell BK110.out 2).trans rfl; have hcz74_3 : w73.cell? ⟨gb110, 3, none⟩ = some (.string t108) := (blk_cell BK110.out 3).trans rfl; have hfz74_0 := blk_frozen BK110.out 0; have hfz74_1 := blk_frozen BK110.out 1; have hfz74_2 := blk_frozen BK110.out 2; have hfz74_3 := blk_frozen BK110.out 3; have hcz75_0 : w73.cell? ⟨gb109, 0, none⟩ = some (.int .i64 t101) := (blk_cell BK109.out 0).trans rfl; have hcz75_1 : w73.cell? ⟨gb109, 1, none⟩ = some (.int .i64 t102) := (blk_cell BK109.out 1).trans rfl; have hcz75_2 : w73.cell? ⟨gb109, 2, none⟩ = some (.string t103) := (blk_cell BK109.out 2).trans rfl; have hcz75_3 : w73.cell? ⟨gb109, 3, none⟩ = some (.string t104) := (blk_cell BK109.out 3).trans rfl; have hfz75_0 := blk_frozen BK109.out 0; have hfz75_1 := blk_frozen BK109.out 1; have hfz75_2 := blk_frozen BK109.out 2; have hfz75_3 := blk_frozen BK109.out 3) | (go_at_call 23; (with_reducible refine (impl_AddrIn.calls kj7 t105 t106 t107 t108 t101 t102 t103 t104 false _ A51.out).mono ?_); rintro e w76 ⟨rfl, hb⟩; have n0_ := Aside0.mk (blk_below (g := gb109) (o := .cells #[.int .i64 t101, .int .i64 t102, .string t103, .string t104] 34 (0, 0)) (by (with_reducible repeat (first | refine blk_drewN ?_ _ | refine blk_drew ?_ | refine blk_alloc ?_ _)); exact BK109.out) hb); have n1_ := Aside0.mk (blk_below (g := gb110) (o := .cells #[.int .i64 t105, .int .i64 t106, .string t107, .string t108] 34 (0, 0)) (by (with_reducible repeat (first | refine blk_drewN ?_ _ | refine blk_drew ?_ | refine blk_alloc ?_ _)); exact BK110.out) hb); have n2_ := Aside0.mk (blk_below (g := gb119) (o := .cells #[.int .i64 t111, .int .i64 t112, .string t113, .string t114] 34 (0, 0)) (by (with_reducible repeat (first | refine blk_drewN ?_ _ | refine blk_drew ?_ | refine blk_alloc ?_ _)); exact BK119.out) hb); have n3_ := Aside0.mk (blk_below (g := gb120) (o := .cells #[.int .i64 t115, .int .i64 t116, .string t117, .string t118] 34 (0, 0)) (by (with_reducible repeat (first | refine blk_drewN ?_ _ | refine blk_drew ?_ | refine blk_alloc ?_ _)); exact BK120.out) hb); have n4_ := Aside0.mk (below_step (by repeat (first | (with_reducible first | exact HB.out | apply below_alloc | apply pw_below_drewN | apply below_drew1 | refine below_set ?_ GE109.out | refine below_set ?_ GE110.out | refine below_set ?_ GE119.out | refine below_set ?_ GE120.out) | exact HB.out)) hb); clear BK109; clear BK110; clear BK119; clear BK120; clear HB; have BK109 := n0_; have BK110 := n1_; have BK119 := n2_; have BK120 := n3_; have HB := n4_; clear n0_ n1_ n2_ n3_ n4_; (try clear hb); (try clear hb2); (try clear hk); (try clear hi)))
                    go_meet
                    case rel => exact ⟨_, (false), (by first | rfl | (simp; done) | (simp [*]; done)), H', ⟨by have := HJ2.out; have := HJ7.out; first | omega | exact Nat.le_refl _⟩, ⟨by (with_reducible repeat (first | refine blk_drewN ?_ _ | refine blk_drew ?_ | refine blk_alloc ?_ _)); exact BK109.out⟩, ⟨by (with_reducible repeat (first | refine blk_drewN ?_ _ | refine blk_drew ?_ | refine blk_alloc ?_ _)); exact BK110.out⟩, ⟨by (with_reducible repeat (first | refine blk_drewN ?_ _ | refine blk_drew ?_ | refine blk_alloc ?_ _)); exact BK119.out⟩, ⟨by (with_reducible repeat (first | refine blk_drewN ?_ _ | refine blk_drew ?_ | refine blk_alloc ?_ _)); exact BK120.out⟩, ⟨by repeat (first | (with_reducible first | exact HB.out | apply below_alloc | apply pw_below_drewN | apply below_drew1 | refine below_set ?_ GE109.out | refine below_set ?_ GE110.out | refine below_set ?_ GE119.out | refine below_set ?_ GE120.out) | exact HB.out)⟩⟩
                · replace c50 := Bool.eq_false_iff.mpr c50
                  subst c50
                  have H1 : (laws_FnBlocks.j2 kj7 false t101 t102 t103 t104 t105 t106 t107 t108 t111 t112 t113 t114) = some r := by rw [if_neg (show ¬ (false = true) by decide)] at H; exact H
                  clear H
                  have H := H1
                  clear H1
                  have H' := Aside0.mk H
                  clear H
                  have hnb77 := NB109_110.out
                  have hnc77 := NB110_109.out
                  have hnb78 := NB109_119.out
                  have hnc78 := NB119_109.out
                  have hnb79 := NB109_120.out
                  have hnc79 := NB120_109.out
                  have hcz80_0 : wc.cell? ⟨gb109, 0, none⟩ = some (.int .i64 t101) := (blk_cell BK109.out 0).trans rfl
                  have hcz80_1 : wc.cell? ⟨gb109, 1, none⟩ = some (.int .i64 t102) := (blk_cell BK109.out 1).trans rfl
                  have hcz80_2 : wc.cell? ⟨gb109, 2, none⟩ = some (.string t103) := (blk_cell BK109.out 2).trans rfl
                  have hcz80_3 : wc.cell? ⟨gb109, 3, none⟩ = some (.string t104) := (blk_cell BK109.out 3).trans rfl
                  have hfz80_0 := blk_frozen BK109.out 0
                  have hfz80_1 := blk_frozen BK109.out 1
                  have hfz80_2 := blk_frozen BK109.out 2
                  have hfz80_3 := blk_frozen BK109.out 3
                  have hnb81 := NB110_119.out
                  have hnc81 := NB119_110.out
                  have hnb82 := NB110_120.out
                  have hnc82 := NB120_110.out
                  have hcz83_0 : wc.cell? ⟨gb110, 0, none⟩ = some (.int .i64 t105) := (blk_cell BK110.out 0).trans rfl
                  have hcz83_1 : wc.cell? ⟨gb110, 1, none⟩ = some (.int .i64 t106) := (blk_cell BK110.out 1).trans rfl
                  have hcz83_2 : wc.cell? ⟨gb110, 2, none⟩ = some (.string t107) := (blk_cell BK110.out 2).trans rfl
                  have hcz83_3 : wc.cell? ⟨gb110, 3, none⟩ = some (.string t108) := (blk_cell BK110.out 3).trans rfl
                  have hfz83_0 := blk_frozen BK110.out 0
                  have hfz83_1 := blk_frozen BK110.out 1
                  have hfz83_2 := blk_frozen BK110.out 2
                  have hfz83_3 := blk_frozen BK110.out 3
                  go_wp2_with (first | ((with_reducible refine gate_callee (f := 23) rfl ?_); refine goesL_ (some 49) rfl rfl Try.func23 (by kernel_rfl) rfl #[.agg #[.int .i64 t101, .int .i64 t102, .string t103, .string t104], .agg #[.int .i64 t105, .int .i64 t106, .string t107, .string t108]] rfl (by (try simp only [List.map_toArray, List.map_cons, List.map_nil]); first | done | rfl | (simp only [List.length_drop, List.length_take]; rfl)) ?_; (with_reducible refine (impl_AddrIn.calls kj7 t101 t102 t103 t104 t105 t106 t107 t108 false _ A49.out).mono ?_); rintro e w84 ⟨rfl, hb⟩; refine ⟨_, rfl, ?_⟩; have n0_ := Aside0.mk (blk_below (g := gb109) (o := .cells #[.int .i64 t101, .int .i64 t102, .string t103, .string t104] 34 (0, 0)) (by (with_reducible repeat (first | refine blk_drewN ?_ _ | refine blk_drew ?_ | refine blk_alloc ?_ _)); exact BK109.out) hb); have n1_ := Aside0.mk (blk_below (g := gb110) (o := .cells #[.int .i64 t105, .int .i64 t106, .string t107, .string t108] 34 (0, 0)) (by (with_reducible repeat (first | refine blk_drewN ?_ _ | refine blk_drew ?_ | refine blk_alloc ?_ _)); exact BK110.out) hb); have n2_ := Aside0.mk (blk_below (g := gb119) (o := .cells #[.int .i64 t111, .int .i64 t112, .string t113, .string t114] 34 (0, 0)) (by (with_reducible repeat (first | refine blk_drewN ?_ _ | refine blk_drew ?_ | refine blk_alloc ?_ _)); exact BK119.out) hb); have n3_ := Aside0.mk (blk_below (g := gb120) (o := .cells #[.int .i64 t115, .int .i64 t116, .string t117, .string t118] 34 (0, 0)) (by (with_reducible repeat (first | refine blk_drewN ?_ _ | refine blk_drew ?_ | refine blk_alloc ?_ _)); exact BK120.out) hb); have n4_ := Aside0.mk (below_step (by repeat (first | (with_reducible first | exact HB.out | apply below_alloc | apply pw_below_drewN | apply below_drew1 | refine below_set ?_ GE109.out | refine below_set ?_ GE110.out | refine below_set ?_ GE119.out | refine below_set ?_ GE120.out) | exact HB.out)) hb); clear BK109; clear BK110; clear BK119; clear BK120; clear HB; have BK109 := n0_; have BK110 := n1_; have BK119 := n2_; have BK120 := n3_; have HB := n4_; clear n0_ n1_ n2_ n3_ n4_; (try clear hb); (try clear hb2); (try clear hk); (try clear hi)))
                  go_meet
                  case rel => exact ⟨_, (false), (by first | rfl | (simp; done) | (simp [*]; done)), H', ⟨by have := HJ2.out; have := HJ7.out; first | omega | exact Nat.le_refl _⟩, ⟨by (with_reducible repeat (first | refine blk_drewN ?_ _ | refine blk_drew ?_ | refine blk_alloc ?_ _)); exact BK109.out⟩, ⟨by (with_reducible repeat (first | refine blk_drewN ?_ _ | refine blk_drew ?_ | refine blk_alloc ?_ _)); exact BK110.out⟩, ⟨by (with_reducible repeat (first | refine blk_drewN ?_ _ | refine blk_drew ?_ | refine blk_alloc ?_ _)); exact BK119.out⟩, ⟨by (with_reducible repeat (first | refine blk_drewN ?_ _ | refine blk_drew ?_ | refine blk_alloc ?_ _)); exact BK120.out⟩, ⟨by repeat (first | (with_reducible first | exact HB.out | apply below_alloc | apply pw_below_drewN | apply below_drew1 | refine below_set ?_ GE109.out | refine below_set ?_ GE110.out | refine below_set ?_ GE119.out | refine below_set ?_ GE120.out) | exact HB.out)⟩⟩
              case rest =>
                clear HC48
                try clear c2
                try clear p2
                try clear c3
                try clear c4
                try clear c5
                try clear c6
                try clear c7
                try clear c8
                try clear c23
                try clear c24
                try clear c25
                try clear c34
                try clear c47
                try clear c50
                try clear c52
                try clear c53
                try clear c54
                try clear c55
                try clear c57
                try clear c58
                try clear c66
                try clear c67
                try clear c68
                try clear c70
                try clear c71
                try clear c77
                try clear c78
                try clear c79
                try clear c81
                try clear c82
                try clear hcz56_0
                try clear hcz56_1
                try clear hcz56_2
                try clear hcz56_3
                try clear hcz59_0
                try clear hcz59_1
                try clear hcz59_2
                try clear hcz59_3
                try clear hcz61_0
                try clear hcz61_1
                try clear hcz61_2
                try clear hcz61_3
                try clear hcz62_0
                try clear hcz62_1
                try clear hcz62_2
                try clear hcz62_3
                try clear hcz64_0
                try clear hcz64_1
                try clear hcz64_2
                try clear hcz64_3
                try clear hcz65_0
                try clear hcz65_1
                try clear hcz65_2
                try clear hcz65_3
                try clear hcz69_0
                try clear hcz69_1
                try clear hcz69_2
                try clear hcz69_3
                try clear hcz72_0
                try clear hcz72_1
                try clear hcz72_2
                try clear hcz72_3
                try clear hcz74_0
                try clear hcz74_1
                try clear hcz74_2
                try clear hcz74_3
                try clear hcz75_0
                try clear hcz75_1
                try clear hcz75_2
                try clear hcz75_3
                try clear hcz80_0
                try clear hcz80_1
                try clear hcz80_2
                try clear hcz80_3
                try clear hcz83_0
                try clear hcz83_1
                try clear hcz83_2
                try clear hcz83_3
                try clear hfz56_0
                try clear hfz56_1
                try clear hfz56_2
                try clear hfz56_3
                try clear hfz59_0
                try clear hfz59_1
                try clear hfz59_2
                try clear hfz59_3
                try clear hfz61_0
                try clear hfz61_1
                try clear hfz61_2
                try clear hfz61_3
                try clear hfz62_0
                try clear hfz62_1
                try clear hfz62_2
                try clear hfz62_3
                try clear hfz64_0
                try clear hfz64_1
                try clear hfz64_2
                try clear hfz64_3
                try clear hfz65_0
                try clear hfz65_1
                try clear hfz65_2
                try clear hfz65_3
                try clear hfz69_0
                try clear hfz69_1
                try clear hfz69_2
                try clear hfz69_3
                try clear hfz72_0
                try clear hfz72_1
                try clear hfz72_2
                try clear hfz72_3
                try clear hfz74_0
                try clear hfz74_1
                try clear hfz74_2
                try clear hfz74_3
                try clear hfz75_0
                try clear hfz75_1
                try clear hfz75_2
                try clear hfz75_3
                try clear hfz80_0
                try clear hfz80_1
                try clear hfz80_2
                try clear hfz80_3
                try clear hfz83_0
                try clear hfz83_1
                try clear hfz83_2
                try clear hfz83_3
                try clear p2
                obtain ⟨kq, x59_47, rfl, HA, HJ47, BK109, BK110, BK119, BK120, HB⟩ := hcut
                cases kq with
                | zero => exact absurd HA.out (by simp [laws_FnBlocks.j2])
                | succ kj47 =>
                  have H := HA.out
                  clear HA
                  simp only [laws_FnBlocks.j2] at H
                  by_cases c85 : x59_47 = true
                  · subst c85
                    have H1 : (none) = some r := by rw [if_pos rfl] at H; exact H
                    clear H
                    have H := H1
                    clear H1
                    exact absurd H (by simp)
                  · replace c85 := Bool.eq_false_iff.mpr c85
                    subst c85
                    have H1 : ((impl_AddrIn.f kj47 t101 t102 t103 t104 t105 t106 t107 t108).bind fun t127 => (if t127 = true then ((impl_AddrIn.f kj47 t105 t106 t107 t108 t111 t112 t113 t114).bind fun t128 => (if t128 = true then ((impl_AddrIn.f kj47 t101 t102 t103 t104 t111 t112 t113 t114).bind fun t129 => (some t129)) else (some true))) else (some true))) = some r := by rw [if_neg (show ¬ (false = true) by decide)] at H; exact H
                    clear H
                    have H := H1
                    clear H1
                    replace H := Option.bind_eq_some_iff.mp H
                    obtain ⟨t127, A860, H⟩ := H
                    replace H : (if t127 = true then ((impl_AddrIn.f kj47 t105 t106 t107 t108 t111 t112 t113 t114).bind fun t128 => (if t128 = true then ((impl_AddrIn.f kj47 t101 t102 t103 t104 t111 t112 t113 t114).bind fun t129 => (some t129)) else (some true))) else (some true)) = some r := H
                    have A86 := Aside0.mk A860
                    clear A860
                    by_cases c87 : t127 = true
                    · subst c87
                      have H1 : ((impl_AddrIn.f kj47 t105 t106 t107 t108 t111 t112 t113 t114).bind fun t128 => (if t128 = true then ((impl_AddrIn.f kj47 t101 t102 t103 t104 t111 t112 t113 t114).bind fun t129 => (some t129)) else (some true))) = some r := by rw [if_pos rfl] at H; exact H
                      clear H
                      have H := H1
                      clear H1
                      replace H := Option.bind_eq_some_iff.mp H
                      obtain ⟨t128, A880, H⟩ := H
                      replace H : (if t128 = true then ((impl_AddrIn.f kj47 t101 t102 t103 t104 t111 t112 t113 t114).bind fun t129 => (some t129)) else (some true)) = some r := H
                      have A88 := Aside0.mk A880
                      clear A880
                      by_cases c89 : t128 = true
                      · subst c89
                        have H1 : ((impl_AddrIn.f kj47 t101 t102 t103 t104 t111 t112 t113 t114).bind fun t129 => (some t129)) = some r := by rw [if_pos rfl] at H; exact H
                        clear H
                        have H := H1
                        clear H1
                        replace H := Option.bind_eq_some_iff.mp H
                        obtain ⟨t129, A900, H⟩ := H
                        replace H : (some t129) = some r := H
                        have A90 := Aside0.mk A900
                        clear A900
                        obtain rfl := Option.some.inj H
                        have hnb91 := NB109_110.out
                        have hnc91 := NB110_109.out
                        have hnb92 := NB109_119.out
                        have hnc92 := NB119_109.out
                        have hnb93 := NB109_120.out
                        have hnc93 := NB120_109.out
                        have hcz94_0 : wc.cell? ⟨gb109, 0, none⟩ = some (.int .i64 t101) := (blk_cell BK109.out 0).trans rfl
                        have hcz94_1 : wc.cell? ⟨gb109, 1, none⟩ = some (.int .i64 t102) := (blk_cell BK109.out 1).trans rfl
                        have hcz94_2 : wc.cell? ⟨gb109, 2, none⟩ = some (.string t103) := (blk_cell BK109.out 2).trans rfl
                        have hcz94_3 : wc.cell? ⟨gb109, 3, none⟩ = some (.string t104) := (blk_cell BK109.out 3).trans rfl
                        have hfz94_0 := blk_frozen BK109.out 0
                        have hfz94_1 := blk_frozen BK109.out 1
                        have hfz94_2 := blk_frozen BK109.out 2
                        have hfz94_3 := blk_frozen BK109.out 3
                        have hnb95 := NB110_119.out
                        have hnc95 := NB119_110.out
                        have hnb96 := NB110_120.out
                        have hnc96 := NB120_110.out
                        have hcz97_0 : wc.cell? ⟨gb110, 0, none⟩ = some (.int .i64 t105) := (blk_cell BK110.out 0).trans rfl
                        have hcz97_1 : wc.cell? ⟨gb110, 1, none⟩ = some (.int .i64 t106) := (blk_cell BK110.out 1).trans rfl
                        have hcz97_2 : wc.cell? ⟨gb110, 2, none⟩ = some (.string t107) := (blk_cell BK110.out 2).trans rfl
                        have hcz97_3 : wc.cell? ⟨gb110, 3, none⟩ = some (.string t108) := (blk_cell BK110.out 3).trans rfl
                        have hfz97_0 := blk_frozen BK110.out 0
                        have hfz97_1 := blk_frozen BK110.out 1
                        have hfz97_2 := blk_frozen BK110.out 2
                        have hfz97_3 := blk_frozen BK110.out 3
                        go_wp2_with (first | ((with_reducible refine gate_callee (f := 23) rfl ?_); refine goesL_ (some 62) rfl rfl Try.func23 (by kernel_rfl) rfl #[.agg #[.int .i64 t101, .int .i64 t102, .string t103, .string t104], .agg #[.int .i64 t105, .int .i64 t106, .string t107, .string t108]] rfl (by (try simp only [List.map_toArray, List.map_cons, List.map_nil]); first | done | rfl | (simp only [List.length_drop, List.length_take]; rfl)) ?_; (with_reducible refine (impl_AddrIn.calls kj47 t101 t102 t103 t104 t105 t106 t107 t108 true _ A86.out).mono ?_); rintro e w98 ⟨rfl, hb⟩; refine ⟨_, rfl, ?_⟩; have n0_ := Aside0.mk (blk_below (g := gb109) (o := .cells #[.int .i64 t101, .int .i64 t102, .string t103, .string t104] 34 (0, 0)) (by (with_reducible repeat (first | refine blk_drewN ?_ _ | refine blk_drew ?_ | refine blk_alloc ?_ _)); exact BK109.out) hb); have n1_ := Aside0.mk (blk_below (g := gb110) (o := .cells #[.int .i64 t105, .int .i64 t106, .string t107, .string t108] 34 (0, 0)) (by (with_reducible repeat (first | refine blk_drewN ?_ _ | refine blk_drew ?_ | refine blk_alloc ?_ _)); exact BK110.out) hb); have n2_ := Aside0.mk (blk_below (g := gb119) (o := .cells #[.int .i64 t111, .int .i64 t112, .string t113, .string t114] 34 (0, 0)) (by (with_reducible repeat (first | refine blk_drewN ?_ _ | refine blk_drew ?_ | refine blk_alloc ?_ _)); exact BK119.out) hb); have n3_ := Aside0.mk (blk_below (g := gb120) (o := .cells #[.int .i64 t115, .int .i64 t116, .string t117, .string t118] 34 (0, 0)) (by (with_reducible repeat (first | refine blk_drewN ?_ _ | refine blk_drew ?_ | refine blk_alloc ?_ _)); exact BK120.out) hb); have n4_ := Aside0.mk (below_step (by repeat (first | (with_reducible first | exact HB.out | apply below_alloc | apply pw_below_drewN | apply below_drew1 | refine below_set ?_ GE109.out | refine below_set ?_ GE110.out | refine below_set ?_ GE119.out | refine below_set ?_ GE120.out) | exact HB.out)) hb); clear BK109; clear BK110; clear BK119; clear BK120; clear HB; have BK109 := n0_; have BK110 := n1_; have BK119 := n2_; have BK120 := n3_; have HB := n4_; clear n0_ n1_ n2_ n3_ n4_; (try clear hb); (try clear hb2); (try clear hk); (try clear hi); have hcz99_0 : w98.cell? ⟨gb110, 0, none⟩ = some (.int .i64 t105) := (blk_cell BK110.out 0).trans rfl; have hcz99_1 : w98.cell? ⟨gb110, 1, none⟩ = some (.int .i64 t106) := (blk_cell BK110.out 1).trans rfl; have hcz99_2 : w98.cell? ⟨gb110, 2, none⟩ = some (.string t107) := (blk_cell BK110.out 2).trans rfl; have hcz99_3 : w98.cell? ⟨gb110, 3, none⟩ = some (.string t108) := (blk_cell BK110.out 3).trans rfl; have hfz99_0 := blk_frozen BK110.out 0; have hfz99_1 := blk_frozen BK110.out 1; have hfz99_2 := blk_frozen BK110.out 2; have hfz99_3 := blk_frozen BK110.out 3; have hnb100 := NB119_120.out; have hnc100 := NB120_119.out; have hcz101_0 : w98.cell? ⟨gb119, 0, none⟩ = some (.int .i64 t111) := (blk_cell BK119.out 0).trans rfl; have hcz101_1 : w98.cell? ⟨gb119, 1, none⟩ = some (.int .i64 t112) := (blk_cell BK119.out 1).trans rfl; have hcz101_2 : w98.cell? ⟨gb119, 2, none⟩ = some (.string t113) := (blk_cell BK119.out 2).trans rfl; have hcz101_3 : w98.cell? ⟨gb119, 3, none⟩ = some (.string t114) := (blk_cell BK119.out 3).trans rfl; have hfz101_0 := blk_frozen BK119.out 0; have hfz101_1 := blk_frozen BK119.out 1; have hfz101_2 := blk_frozen BK119.out 2; have hfz101_3 := blk_frozen BK119.out 3) | (go_at_call 23; (with_reducible refine (impl_AddrIn.calls kj47 t105 t106 t107 t108 t111 t112 t113 t114 true _ A88.out).mono ?_); rintro e w102 ⟨rfl, hb⟩; have n0_ := Aside0.mk (blk_below (g := gb109) (o := .cells #[.int .i64 t101, .int .i64 t102, .string t103, .string t104] 34 (0, 0)) (by (with_reducible repeat (first | refine blk_drewN ?_ _ | refine blk_drew ?_ | refine blk_alloc ?_ _)); exact BK109.out) hb); have n1_ := Aside0.mk (blk_below (g := gb110) (o := .cells #[.int .i64 t105, .int .i64 t106, .string t107, .string t108] 34 (0, 0)) (by (with_reducible repeat (first | refine blk_drewN ?_ _ | refine blk_drew ?_ | refine blk_alloc ?_ _)); exact BK110.out) hb); have n2_ := Aside0.mk (blk_below (g := gb119) (o := .cells #[.int .i64 t111, .int .i64 t112, .string t113, .string t114] 34 (0, 0)) (by (with_reducible repeat (first | refine blk_drewN ?_ _ | refine blk_drew ?_ | refine blk_alloc ?_ _)); exact BK119.out) hb); have n3_ := Aside0.mk (blk_below (g := gb120) (o := .cells #[.int .i64 t115, .int .i64 t116, .string t117, .string t118] 34 (0, 0)) (by (with_reducible repeat (first | refine blk_drewN ?_ _ | refine blk_drew ?_ | refine blk_alloc ?_ _)); exact BK120.out) hb); have n4_ := Aside0.mk (below_step (by repeat (first | (with_reducible first | exact HB.out | apply below_alloc | apply pw_below_drewN | apply below_drew1 | refine below_set ?_ GE109.out | refine below_set ?_ GE110.out | refine below_set ?_ GE119.out | refine below_set ?_ GE120.out) | exact HB.out)) hb); clear BK109; clear BK110; clear BK119; clear BK120; clear HB; have BK109 := n0_; have BK110 := n1_; have BK119 := n2_; have BK120 := n3_; have HB := n4_; clear n0_ n1_ n2_ n3_ n4_; (try clear hb); (try clear hb2); (try clear hk); (try clear hi); have hcz103_0 : w102.cell? ⟨gb109, 0, none⟩ = some (.int .i64 t101) := (blk_cell BK109.out 0).trans rfl; have hcz103_1 : w102.cell? ⟨gb109, 1, none⟩ = some (.int .i64 t102) := (blk_cell BK109.out 1).trans rfl; have hcz103_2 : w102.cell? ⟨gb109, 2, none⟩ = some (.string t103) := (blk_cell BK109.out 2).trans rfl; have hcz103_3 : w102.cell? ⟨gb109, 3, none⟩ = some (.string t104) := (blk_cell BK109.out 3).trans rfl; have hfz103_0 := blk_frozen BK109.out 0; have hfz103_1 := blk_frozen BK109.out 1; have hfz103_2 := blk_frozen BK109.out 2; have hfz103_3 := blk_frozen BK109.out 3; have hcz104_0 : w102.cell? ⟨gb119, 0, none⟩ = some (.int .i64 t111) := (blk_cell BK119.out 0).trans rfl; have hcz104_1 : w102.cell? ⟨gb119, 1, none⟩ = some (.int .i64 t112) := (blk_cell BK119.out 1).trans rfl; have hcz104_2 : w102.cell? ⟨gb119, 2, none⟩ = some (.string t113) := (blk_cell BK119.out 2).trans rfl; have hcz104_3 : w102.cell? ⟨gb119, 3, none⟩ = some (.string t114) := (blk_cell BK119.out 3).trans rfl; have hfz104_0 := blk_frozen BK119.out 0; have hfz104_1 := blk_frozen BK119.out 1; have hfz104_2 := blk_frozen BK119.out 2; have hfz104_3 := blk_frozen BK119.out 3) | (go_at_call 23; (with_reducible refine (impl_AddrIn.calls kj47 t101 t102 t103 t104 t111 t112 t113 t114 t129 _ A90.out).mono ?_); rintro e w105 ⟨rfl, hb⟩; have n0_ := Aside0.mk (blk_below (g := gb109) (o := .cells #[.int .i64 t101, .int .i64 t102, .string t103, .string t104] 34 (0, 0)) (by (with_reducible repeat (first | refine blk_drewN ?_ _ | refine blk_drew ?_ | refine blk_alloc ?_ _)); exact BK109.out) hb); have n1_ := Aside0.mk (blk_below (g := gb110) (o := .cells #[.int .i64 t105, .int .i64 t106, .string t107, .string t108] 34 (0, 0)) (by (with_reducible repeat (first | refine blk_drewN ?_ _ | refine blk_drew ?_ | refine blk_alloc ?_ _)); exact BK110.out) hb); have n2_ := Aside0.mk (blk_below (g := gb119) (o := .cells #[.int .i64 t111, .int .i64 t112, .string t113, .string t114] 34 (0, 0)) (by (with_reducible repeat (first | refine blk_drewN ?_ _ | refine blk_drew ?_ | refine blk_alloc ?_ _)); exact BK119.out) hb); have n3_ := Aside0.mk (blk_below (g := gb120) (o := .cells #[.int .i64 t115, .int .i64 t116, .string t117, .string t118] 34 (0, 0)) (by (with_reducible repeat (first | refine blk_drewN ?_ _ | refine blk_drew ?_ | refine blk_alloc ?_ _)); exact BK120.out) hb); have n4_ := Aside0.mk (below_step (by repeat (first | (with_reducible first | exact HB.out | apply below_alloc | apply pw_below_drewN | apply below_drew1 | refine below_set ?_ GE109.out | refine below_set ?_ GE110.out | refine below_set ?_ GE119.out | refine below_set ?_ GE120.out) | exact HB.out)) hb); clear BK109; clear BK110; clear BK119; clear BK120; clear HB; have BK109 := n0_; have BK110 := n1_; have BK119 := n2_; have BK120 := n3_; have HB := n4_; clear n0_ n1_ n2_ n3_ n4_; (try clear hb); (try clear hb2); (try clear hk); (try clear hi)))
                        go_ret
                        exact ⟨by first | rfl | (simp [errW_none, errW_some] <;> rfl) | (simp [*, errW_none, errW_some] <;> rfl), by repeat (first | (with_reducible first | exact HB.out | apply below_alloc | apply pw_below_drewN | apply below_drew1 | refine below_set ?_ GE109.out | refine below_set ?_ GE110.out | refine below_set ?_ GE119.out | refine below_set ?_ GE120.out) | exact HB.out)⟩
                      · replace c89 := Bool.eq_false_iff.mpr c89
                        subst c89
                        have H1 : (some true) = some r := by rw [if_neg (show ¬ (false = true) by decide)] at H; exact H
                        clear H
                        have H := H1
                        clear H1
                        obtain rfl := Option.some.inj H
                        have hnb106 := NB109_110.out
                        have hnc106 := NB110_109.out
                        have hnb107 := NB109_119.out
                        have hnc107 := NB119_109.out
                        have hnb108 := NB109_120.out
                        have hnc108 := NB120_109.out
                        have hcz109_0 : wc.cell? ⟨gb109, 0, none⟩ = some (.int .i64 t101) := (blk_cell BK109.out 0).trans rfl
                        have hcz109_1 : wc.cell? ⟨gb109, 1, none⟩ = some (.int .i64 t102) := (blk_cell BK109.out 1).trans rfl
                        have hcz109_2 : wc.cell? ⟨gb109, 2, none⟩ = some (.string t103) := (blk_cell BK109.out 2).trans rfl
                        have hcz109_3 : wc.cell? ⟨gb109, 3, none⟩ = some (.string t104) := (blk_cell BK109.out 3).trans rfl
                        have hfz109_0 := blk_frozen BK109.out 0
                        have hfz109_1 := blk_frozen BK109.out 1
                        have hfz109_2 := blk_frozen BK109.out 2
                        have hfz109_3 := blk_frozen BK109.out 3
                        have hnb110 := NB110_119.out
                        have hnc110 := NB119_110.out
                        have hnb111 := NB110_120.out
                        have hnc111 := NB120_110.out
                        have hcz112_0 : wc.cell? ⟨gb110, 0, none⟩ = some (.int .i64 t105) := (blk_cell BK110.out 0).trans rfl
                        have hcz112_1 : wc.cell? ⟨gb110, 1, none⟩ = some (.int .i64 t106) := (blk_cell BK110.out 1).trans rfl
                        have hcz112_2 : wc.cell? ⟨gb110, 2, none⟩ = some (.string t107) := (blk_cell BK110.out 2).trans rfl
                        have hcz112_3 : wc.cell? ⟨gb110, 3, none⟩ = some (.string t108) := (blk_cell BK110.out 3).trans rfl
                        have hfz112_0 := blk_frozen BK110.out 0
                        have hfz112_1 := blk_frozen BK110.out 1
                        have hfz112_2 := blk_frozen BK110.out 2
                        have hfz112_3 := blk_frozen BK110.out 3
                        go_wp2_with (first | ((with_reducible refine gate_callee (f := 23) rfl ?_); refine goesL_ (some 62) rfl rfl Try.func23 (by kernel_rfl) rfl #[.agg #[.int .i64 t101, .int .i64 t102, .string t103, .string t104], .agg #[.int .i64 t105, .int .i64 t106, .string t107, .string t108]] rfl (by (try simp only [List.map_toArray, List.map_cons, List.map_nil]); first | done | rfl | (simp only [List.length_drop, List.length_take]; rfl)) ?_; (with_reducible refine (impl_AddrIn.calls kj47 t101 t102 t103 t104 t105 t106 t107 t108 true _ A86.out).mono ?_); rintro e w113 ⟨rfl, hb⟩; refine ⟨_, rfl, ?_⟩; have n0_ := Aside0.mk (blk_below (g := gb109) (o := .cells #[.int .i64 t101, .int .i64 t102, .string t103, .string t104] 34 (0, 0)) (by (with_reducible repeat (first | refine blk_drewN ?_ _ | refine blk_drew ?_ | refine blk_alloc ?_ _)); exact BK109.out) hb); have n1_ := Aside0.mk (blk_below (g := gb110) (o := .cells #[.int .i64 t105, .int .i64 t106, .string t107, .string t108] 34 (0, 0)) (by (with_reducible repeat (first | refine blk_drewN ?_ _ | refine blk_drew ?_ | refine blk_alloc ?_ _)); exact BK110.out) hb); have n2_ := Aside0.mk (blk_below (g := gb119) (o := .cells #[.int .i64 t111, .int .i64 t112, .string t113, .string t114] 34 (0, 0)) (by (with_reducible repeat (first | refine blk_drewN ?_ _ | refine blk_drew ?_ | refine blk_alloc ?_ _)); exact BK119.out) hb); have n3_ := Aside0.mk (blk_below (g := gb120) (o := .cells #[.int .i64 t115, .int .i64 t116, .string t117, .string t118] 34 (0, 0)) (by (with_reducible repeat (first | refine blk_drewN ?_ _ | refine blk_drew ?_ | refine blk_alloc ?_ _)); exact BK120.out) hb); have n4_ := Aside0.mk (below_step (by repeat (first | (with_reducible first | exact HB.out | apply below_alloc | apply pw_below_drewN | apply below_drew1 | refine below_set ?_ GE109.out | refine below_set ?_ GE110.out | refine below_set ?_ GE119.out | refine below_set ?_ GE120.out) | exact HB.out)) hb); clear BK109; clear BK110; clear BK119; clear BK120; clear HB; have BK109 := n0_; have BK110 := n1_; have BK119 := n2_; have BK120 := n3_; have HB := n4_; clear n0_ n1_ n2_ n3_ n4_; (try clear hb); (try clear hb2); (try clear hk); (try clear hi); have hcz114_0 : w113.cell? ⟨gb110, 0, none⟩ = some (.int .i64 t105) := (blk_cell BK110.out 0).trans rfl; have hcz114_1 : w113.cell? ⟨gb110, 1, none⟩ = some (.int .i64 t106) := (blk_cell BK110.out 1).trans rfl; have hcz114_2 : w113.cell? ⟨gb110, 2, none⟩ = some (.string t107) := (blk_cell BK110.out 2).trans rfl; have hcz114_3 : w113.cell? ⟨gb110, 3, none⟩ = some (.string t108) := (blk_cell BK110.out 3).trans rfl; have hfz114_0 := blk_frozen BK110.out 0; have hfz114_1 := blk_frozen BK110.out 1; have hfz114_2 := blk_frozen BK110.out 2; have hfz114_3 := blk_frozen BK110.out 3; have hnb115 := NB119_120.out; have hnc115 := NB120_119.out; have hcz116_0 : w113.cell? ⟨gb119, 0, none⟩ = some (.int .i64 t111) := (blk_cell BK119.out 0).trans rfl; have hcz116_1 : w113.cell? ⟨gb119, 1, none⟩ = some (.int .i64 t112) := (blk_cell BK119.out 1).trans rfl; have hcz116_2 : w113.cell? ⟨gb119, 2, none⟩ = some (.string t113) := (blk_cell BK119.out 2).trans rfl; have hcz116_3 : w113.cell? ⟨gb119, 3, none⟩ = some (.string t114) := (blk_cell BK119.out 3).trans rfl; have hfz116_0 := blk_frozen BK119.out 0; have hfz116_1 := blk_frozen BK119.out 1; have hfz116_2 := blk_frozen BK119.out 2; have hfz116_3 := blk_frozen BK119.out 3) | (go_at_call 23; (with_reducible refine (impl_AddrIn.calls kj47 t105 t106 t107 t108 t111 t112 t113 t114 false _ A88.out).mono ?_); rintro e w117 ⟨rfl, hb⟩; have n0_ := Aside0.mk (blk_below (g := gb109) (o := .cells #[.int .i64 t101, .int .i64 t102, .string t103, .string t104] 34 (0, 0)) (by (with_reducible repeat (first | refine blk_drewN ?_ _ | refine blk_drew ?_ | refine blk_alloc ?_ _)); exact BK109.out) hb); have n1_ := Aside0.mk (blk_below (g := gb110) (o := .cells #[.int .i64 t105, .int .i64 t106, .string t107, .string t108] 34 (0, 0)) (by (with_reducible repeat (first | refine blk_drewN ?_ _ | refine blk_drew ?_ | refine blk_alloc ?_ _)); exact BK110.out) hb); have n2_ := Aside0.mk (blk_below (g := gb119) (o := .cells #[.int .i64 t111, .int .i64 t112, .string t113, .string t114] 34 (0, 0)) (by (with_reducible repeat (first | refine blk_drewN ?_ _ | refine blk_drew ?_ | refine blk_alloc ?_ _)); exact BK119.out) hb); have n3_ := Aside0.mk (blk_below (g := gb120) (o := .cells #[.int .i64 t115, .int .i64 t116, .string t117, .string t118] 34 (0, 0)) (by (with_reducible repeat (first | refine blk_drewN ?_ _ | refine blk_drew ?_ | refine blk_alloc ?_ _)); exact BK120.out) hb); have n4_ := Aside0.mk (below_step (by repeat (first | (with_reducible first | exact HB.out | apply below_alloc | apply pw_below_drewN | apply below_drew1 | refine below_set ?_ GE109.out | refine below_set ?_ GE110.out | refine below_set ?_ GE119.out | refine below_set ?_ GE120.out) | exact HB.out)) hb); clear BK109; clear BK110; clear BK119; clear BK120; clear HB; have BK109 := n0_; have BK110 := n1_; have BK119 := n2_; have BK120 := n3_; have HB := n4_; clear n0_ n1_ n2_ n3_ n4_; (try clear hb); (try clear hb2); (try clear hk); (try clear hi)))
                        go_ret
                        exact ⟨by first | rfl | (simp [errW_none, errW_some] <;> rfl) | (simp [*, errW_none, errW_some] <;> rfl), by repeat (first | (with_reducible first | exact HB.out | apply below_alloc | apply pw_below_drewN | apply below_drew1 | refine below_set ?_ GE109.out | refine below_set ?_ GE110.out | refine below_set ?_ GE119.out | refine below_set ?_ GE120.out) | exact HB.out)⟩
                    · replace c87 := Bool.eq_false_iff.mpr c87
                      subst c87
                      have H1 : (some true) = some r := by rw [if_neg (show ¬ (false = true) by decide)] at H; exact H
                      clear H
                      have H := H1
                      clear H1
                      obtain rfl := Option.some.inj H
                      have hnb118 := NB109_110.out
                      have hnc118 := NB110_109.out
                      have hnb119 := NB109_119.out
                      have hnc119 := NB119_109.out
                      have hnb120 := NB109_120.out
                      have hnc120 := NB120_109.out
                      have hcz121_0 : wc.cell? ⟨gb109, 0, none⟩ = some (.int .i64 t101) := (blk_cell BK109.out 0).trans rfl
                      have hcz121_1 : wc.cell? ⟨gb109, 1, none⟩ = some (.int .i64 t102) := (blk_cell BK109.out 1).trans rfl
                      have hcz121_2 : wc.cell? ⟨gb109, 2, none⟩ = some (.string t103) := (blk_cell BK109.out 2).trans rfl
                      have hcz121_3 : wc.cell? ⟨gb109, 3, none⟩ = some (.string t104) := (blk_cell BK109.out 3).trans rfl
                      have hfz121_0 := blk_frozen BK109.out 0
                      have hfz121_1 := blk_frozen BK109.out 1
                      have hfz121_2 := blk_frozen BK109.out 2
                      have hfz121_3 := blk_frozen BK109.out 3
                      have hnb122 := NB110_119.out
                      have hnc122 := NB119_110.out
                      have hnb123 := NB110_120.out
                      have hnc123 := NB120_110.out
                      have hcz124_0 : wc.cell? ⟨gb110, 0, none⟩ = some (.int .i64 t105) := (blk_cell BK110.out 0).trans rfl
                      have hcz124_1 : wc.cell? ⟨gb110, 1, none⟩ = some (.int .i64 t106) := (blk_cell BK110.out 1).trans rfl
                      have hcz124_2 : wc.cell? ⟨gb110, 2, none⟩ = some (.string t107) := (blk_cell BK110.out 2).trans rfl
                      have hcz124_3 : wc.cell? ⟨gb110, 3, none⟩ = some (.string t108) := (blk_cell BK110.out 3).trans rfl
                      have hfz124_0 := blk_frozen BK110.out 0
                      have hfz124_1 := blk_frozen BK110.out 1
                      have hfz124_2 := blk_frozen BK110.out 2
                      have hfz124_3 := blk_frozen BK110.out 3
                      go_wp2_with (first | ((with_reducible refine gate_callee (f := 23) rfl ?_); refine goesL_ (some 62) rfl rfl Try.func23 (by kernel_rfl) rfl #[.agg #[.int .i64 t101, .int .i64 t102, .string t103, .string t104], .agg #[.int .i64 t105, .int .i64 t106, .string t107, .string t108]] rfl (by (try simp only [List.map_toArray, List.map_cons, List.map_nil]); first | done | rfl | (simp only [List.length_drop, List.length_take]; rfl)) ?_; (with_reducible refine (impl_AddrIn.calls kj47 t101 t102 t103 t104 t105 t106 t107 t108 false _ A86.out).mono ?_); rintro e w125 ⟨rfl, hb⟩; refine ⟨_, rfl, ?_⟩; have n0_ := Aside0.mk (blk_below (g := gb109) (o := .cells #[.int .i64 t101, .int .i64 t102, .string t103, .string t104] 34 (0, 0)) (by (with_reducible repeat (first | refine blk_drewN ?_ _ | refine blk_drew ?_ | refine blk_alloc ?_ _)); exact BK109.out) hb); have n1_ := Aside0.mk (blk_below (g := gb110) (o := .cells #[.int .i64 t105, .int .i64 t106, .string t107, .string t108] 34 (0, 0)) (by (with_reducible repeat (first | refine blk_drewN ?_ _ | refine blk_drew ?_ | refine blk_alloc ?_ _)); exact BK110.out) hb); have n2_ := Aside0.mk (blk_below (g := gb119) (o := .cells #[.int .i64 t111, .int .i64 t112, .string t113, .string t114] 34 (0, 0)) (by (with_reducible repeat (first | refine blk_drewN ?_ _ | refine blk_drew ?_ | refine blk_alloc ?_ _)); exact BK119.out) hb); have n3_ := Aside0.mk (blk_below (g := gb120) (o := .cells #[.int .i64 t115, .int .i64 t116, .string t117, .string t118] 34 (0, 0)) (by (with_reducible repeat (first | refine blk_drewN ?_ _ | refine blk_drew ?_ | refine blk_alloc ?_ _)); exact BK120.out) hb); have n4_ := Aside0.mk (below_step (by repeat (first | (with_reducible first | exact HB.out | apply below_alloc | apply pw_below_drewN | apply below_drew1 | refine below_set ?_ GE109.out | refine below_set ?_ GE110.out | refine below_set ?_ GE119.out | refine below_set ?_ GE120.out) | exact HB.out)) hb); clear BK109; clear BK110; clear BK119; clear BK120; clear HB; have BK109 := n0_; have BK110 := n1_; have BK119 := n2_; have BK120 := n3_; have HB := n4_; clear n0_ n1_ n2_ n3_ n4_; (try clear hb); (try clear hb2); (try clear hk); (try clear hi)))
                      go_ret
                      exact ⟨by first | rfl | (simp [errW_none, errW_some] <;> rfl) | (simp [*, errW_none, errW_some] <;> rfl), by repeat (first | (with_reducible first | exact HB.out | apply below_alloc | apply pw_below_drewN | apply below_drew1 | refine below_set ?_ GE109.out | refine below_set ?_ GE110.out | refine below_set ?_ GE119.out | refine below_set ?_ GE120.out) | exact HB.out)⟩

end Go.Proofs.Ytccbjchlcelkgaa.Pr
-- Written by mkprint.py (a program of this repo, which drives the print.py of the kit): Lean checks it.
namespace Go.Proofs.Ytccbjchlcelkgaa.Pr
open Go.RowKit Go.Proofs.YtccbjchlcelkgaaW.PrintWords Go.Proofs.YtccbjchlcelkgaaW.PrintLast Go.Proofs.YtccbjchlcelkgaaW.PrintMore
attribute [local go_sem] max2_int min2_int max_two min_two max_three min_three max_four min_four   -- for this text's walks alone
set_option linter.unusedVariables false
set_option linter.unusedSimpArgs false

/-! ### impl_ybytes: function 79 -/
def impl_ybytes.f (a0 : Int) : Option (List Int) := some (([(a0) % 256, (a0 / 256) % 256, (a0 / 65536) % 256, (a0 / 16777216) % 256] : List Int))
set_option maxHeartbeats 8000000 in
set_option maxRecDepth 100000 in
theorem impl_ybytes.calls (a0 : Int) (r : List Int) (w : World) (h : impl_ybytes.f a0 = some r) :
    Calls Try.prog 79 #[.int .i64 a0] w fun e w' => ∃ v0_ : Value, e = .returned (v0_) ∧ Kd.R (Kd.int .u8) 5 w' w.heap.size (fun _ => True) v0_ r ∧ Below w.heap.size w w' := by
  have HB := Aside0.mk (Below.refl w.heap.size w)
  have H : (some (([(a0) % 256, (a0 / 256) % 256, (a0 / 65536) % 256, (a0 / 16777216) % 256] : List Int))) = some r := h
  clear h
  obtain ⟨y101, hy101⟩ : ∃ y_ : List Int, y_ = (([(a0) % 256, (a0 / 256) % 256, (a0 / 65536) % 256, (a0 / 16777216) % 256] : List Int)) := ⟨_, rfl⟩
  replace H : (some y101) = some r := by first | (rw [hy101]; with_reducible exact H) | (have H2_ := (Option.bind_some _ _).symm.trans H; rw [hy101]; with_reducible exact H2_) | (have H2_ := (Option.bind_some _ _).symm.trans H; with_reducible exact H2_) | with_reducible exact H | (rw [hy101]; exact H) | exact H
  have Ny101 := Aside0.mk hy101
  clear hy101
  obtain rfl := Option.some.inj H
  go_enter Try.func79, Try.ntmps79
  go_wp2_with (first | ((with_reducible refine gate_dst (N := 14) rfl ?_); refine Kd.R_lit (Kd.int .u8) _ 5 ?hg (N := 14) ?hd (xs := ([(a0) % 256, (a0 / 256) % 256, (a0 / 65536) % 256, (a0 / 16777216) % 256] : List Int)) (inner := [.int .u8 ((a0) % 256), .int .u8 ((a0 / 256) % 256), .int .u8 ((a0 / 65536) % 256), .int .u8 ((a0 / 16777216) % 256)]) (ok := fun _ => True) (okp := fun _ => True) ?hr ?hp (fun _ hk => hk) trivial (Below.refl _ _) (Nat.le_refl _) (by simp) ?_; (case hd => rfl); (case hg => rfl); (case hr => first | (go_simp; done) | (go_simp; rfl)); (case hp => exact (Reps.one (show Kd.M (Kd.int .u8) _ _ _ ((a0) % 256) [.int .u8 ((a0) % 256)] from rfl) (Reps.one (show Kd.M (Kd.int .u8) _ _ _ ((a0 / 256) % 256) [.int .u8 ((a0 / 256) % 256)] from rfl) (Reps.one (show Kd.M (Kd.int .u8) _ _ _ ((a0 / 65536) % 256) [.int .u8 ((a0 / 65536) % 256)] from rfl) (Reps.one (show Kd.M (Kd.int .u8) _ _ _ ((a0 / 16777216) % 256) [.int .u8 ((a0 / 16777216) % 256)] from rfl) (Reps.none _ _)))))); intro v102 w2 ho3 hb hg_ hnew_; clear hg_ hnew_; (first | rw [← Ny101.out] at ho3 | (simp only [Int.reduceToNat] at ho3; rw [← Ny101.out] at ho3)); have n0_ := Aside0.mk (Kd.R_lower ho3 (below_size (by repeat (first | (with_reducible first | exact HB.out | apply below_alloc | apply pw_below_drewN | apply below_drew1) | exact HB.out)))); have n1_ := Aside0.mk (below_step (by repeat (first | (with_reducible first | exact HB.out | apply below_alloc | apply pw_below_drewN | apply below_drew1) | exact HB.out)) hb); clear HB; have HO103 := n0_; have HB := n1_; clear n0_ n1_; clear hb ho3))
  go_ret
  exact ⟨_, by first | rfl | (simp [errW_none, errW_some] <;> rfl) | (simp [*, errW_none, errW_some] <;> rfl), by (with_reducible repeat (first | apply Kd.R_alloc | apply Kd.R_drewN | apply Kd.R_drew)); exact HO103.out, by repeat (first | (with_reducible first | exact HB.out | apply below_alloc | apply pw_below_drewN | apply below_drew1) | exact HB.out)⟩

end Go.Proofs.Ytccbjchlcelkgaa.Pr
/- The walk of impl.Digest: what it computes (dg), for every slice of bytes. -/
namespace Go.Proofs.Ytccbjchlcelkgaa.Pr
open Go.RowKit Go.Proofs.YtccbjchlcelkgaaW.PrintWords Go.Proofs.YtccbjchlcelkgaaW.PrintLast Go.Proofs.YtccbjchlcelkgaaW.PrintMore
set_option linter.unusedVariables false
def mulT : List Int := [1103515245, 69069, 1664525, 22695477]
def stepAt (a : List Int) (x : Int) (i : Nat) : List Int := a.set i ((a.getD i 0 * mulT.getD i 0 + x + 1 + a.getD ((i+1)%4) 0) % 2147483579)
def mixN (a : List Int) (x : Int) : Nat → List Int
  | 0 => a
  | i+1 => stepAt (mixN a x i) x i
structure OnlyB (w w' : World) (g : Nat) : Prop where
  os : w'.os = w.os
  tape : w'.tape = w.tape
  output : w'.output = w.output
  size : w'.heap.size = w.heap.size
  block : ∀ k, k ≠ g → w'.heap[k]? = w.heap[k]?
theorem OnlyB.refl (w : World) (g : Nat) : OnlyB w w g := ⟨rfl, rfl, rfl, rfl, fun _ _ => rfl⟩
theorem OnlyB.drew {w w' : World} {g : Nat} (h : OnlyB w w' g) : OnlyB w w'.drew g := ⟨h.os, h.tape, h.output, h.size, h.block⟩
theorem OnlyB.set {w w' : World} {g : Nat} (h : OnlyB w w' g) (j : Nat) (u : Value) : OnlyB w (w'.setCell ⟨g, j, none⟩ u) g :=
  ⟨h.os, h.tape, h.output, by simpa [World.setCell] using h.size, fun k hk => (Below.heap_setCell w' ⟨g, j, none⟩ u k hk).trans (h.block k hk)⟩
theorem mulOk : ∀ j : Nat, j < 4 → 0 ≤ mulT.getD j 0 ∧ mulT.getD j 0 < 2147483579 := by decide
theorem mix_len (l : List Int) (x : Int) (k : Nat) : (mixN l x k).length = l.length := by
  induction k with
  | zero => rfl
  | succ k ih => simp [mixN, stepAt, ih]
theorem prod_bd {a b : Int} (ha : 0 ≤ a) (ha2 : a < 2147483579) (hb : 0 ≤ b) (hb2 : b < 2147483579) : 0 ≤ a * b ∧ a * b ≤ 4611685717779682084 := by
  refine ⟨Int.mul_nonneg ha hb, ?_⟩
  have := Int.mul_le_mul (show a ≤ 2147483578 by omega) (show b ≤ 2147483578 by omega) hb (by omega)
  omega
theorem mix_bd (l : List Int) (x : Int) (hx : 0 ≤ x) (hl : l.length = 4) (hb : ∀ j, j < 4 → 0 ≤ l.getD j 0 ∧ l.getD j 0 < 2147483579) (k : Nat) (hk : k ≤ 4) : ∀ j, j < 4 → 0 ≤ (mixN l x k).getD j 0 ∧ (mixN l x k).getD j 0 < 2147483579 := by
  induction k with
  | zero => exact hb
  | succ k ih =>
    intro j hj
    have ih := ih (by omega)
    have hlen := mix_len l x k
    simp only [mixN, stepAt]
    by_cases e : j = k
    · subst e
      rw [List.getD_eq_getElem?_getD, List.getElem?_set_self (by omega)]
      simp only [Option.getD_some]
      omega
    · rw [List.getD_eq_getElem?_getD, List.getElem?_set_ne (by omega), ← List.getD_eq_getElem?_getD]
      exact ih j hj
theorem nums_cell {w : World} {g : Nat} {l : List Int} {t : TypeId} (h : w.heap[g]? = some (.cells (nums .i64 l).toArray t (0,0))) (k : Nat) (hk : k < l.length) : w.cell? ⟨g, k, none⟩ = some (.int .i64 (l.getD k 0)) := by
  rw [blk_cell h]
  simp [nums, List.getElem?_map, List.getElem?_eq_getElem hk, List.getD_eq_getElem?_getD]
set_option maxHeartbeats 1000000 in
set_option maxRecDepth 100000 in
theorem eat_calls (x : Int) (l : List Int) (hl : l.length = 4) (hb : ∀ j, j < 4 → 0 ≤ l.getD j 0 ∧ l.getD j 0 < 2147483579) (ga gm : Nat) (w : World) (hx0 : 0 ≤ x) (hx1 : x ≤ 255)
  (ha : w.heap[ga]? = some (.cells (nums .i64 l).toArray 163 (0,0))) (hm : w.heap[gm]? = some (.cells (nums .i64 mulT).toArray 163 (0,0))) (hne : ga ≠ gm) :
  Calls Try.prog 165 #[.int .u8 x, .pointer (some ⟨ga, 0, none⟩), .pointer (some ⟨gm, 0, none⟩)] w fun e w' => e = .returned (.tuple #[]) ∧ w'.heap[ga]? = some (.cells (nums .i64 (mixN l x 4)).toArray 163 (0,0)) ∧ OnlyB w w' ga := by
  have HL := Aside0.mk hl; have HB := Aside0.mk hb; have HA := Aside0.mk ha; have HM := Aside0.mk hm
  clear hl hb ha hm
  go_enter Try.func165, Try.ntmps165
  go_wp2
  go_loopw [5] (fun i wr => ∃ k : Nat, k ≤ 4 ∧ i = .int .i64 k ∧ Aside0 (wr.heap[ga]? = some (.cells (nums .i64 (mixN l x k)).toArray 163 (0,0)) ∧ OnlyB w wr ga)) (fun i _ => 4 - (intOf i).toNat)
  case atStart => exact ⟨0, by omega, rfl, ⟨HA.out, OnlyB.refl _ _⟩⟩
  case round =>
    obtain ⟨k, hk, rfl, HW⟩ := hrel
    by_cases hlt : k < 4
    · obtain ⟨a, ea⟩ : ∃ a, a = mixN l x k := ⟨_, rfl⟩
      have hc1 := nums_cell HW.out.1 k (by rw [mix_len, HL.out]; omega)
      have hc2 := nums_cell HW.out.1 ((k+1)%4) (by rw [mix_len, HL.out]; omega)
      have hc3 := nums_cell ((HW.out.2.block gm (Ne.symm hne)).trans HM.out) k hlt
      have hf := blk_frozen HW.out.1 k
      have b1 := mix_bd l x hx0 HL.out HB.out k hk k hlt
      have b2 := mix_bd l x hx0 HL.out HB.out k hk ((k+1)%4) (by omega)
      have b3 := mulOk k hlt
      obtain ⟨p1, eP1⟩ : ∃ p, p = (mixN l x k).getD k 0 := ⟨_, rfl⟩
      obtain ⟨p2, eP2⟩ : ∃ p, p = (mixN l x k).getD ((k+1)%4) 0 := ⟨_, rfl⟩
      obtain ⟨p3, eP3⟩ : ∃ p, p = mulT.getD k 0 := ⟨_, rfl⟩
      rw [← eP1] at hc1 b1; rw [← eP2] at hc2 b2; rw [← eP3] at hc3 b3
      have b4 := prod_bd b1.1 b1.2 b3.1 b3.2
      have EP1 := Aside0.mk eP1; have EP2 := Aside0.mk eP2; have EP3 := Aside0.mk eP3; have EA := Aside0.mk ea
      clear eP1 eP2 eP3 ea
      go_wp2
      have e1 : IntKind.i64.wrap (p1 * p3) = p1 * p3 := IntWalk.i64_in _ (by omega)
      have e2 : IntKind.i64.wrap x = x := IntWalk.i64_in _ (by omega)
      have e3 : IntKind.i64.wrap (p1 * p3 + x) = p1 * p3 + x := IntWalk.i64_in _ (by omega)
      have e4 : IntKind.i64.wrap (p1 * p3 + x + 1) = p1 * p3 + x + 1 := IntWalk.i64_in _ (by omega)
      have e5 : IntKind.i64.wrap (k + 1) = k + 1 := IntWalk.i64_in _ (by omega)
      have e6 : ((k : Int) + 1).tmod 4 = ((k : Int) + 1) % 4 := Int.tmod_eq_emod_of_nonneg (by omega)
      have e7 : IntKind.i64.wrap (p1 * p3 + x + 1 + p2) = p1 * p3 + x + 1 + p2 := IntWalk.i64_in _ (by omega)
      have e8 : (p1 * p3 + x + 1 + p2).tmod 2147483579 = (p1 * p3 + x + 1 + p2) % 2147483579 := Int.tmod_eq_emod_of_nonneg (by omega)
      have n0 : 0 ≤ ((k : Int) + 1) % 4 := by omega
      have n4 : ((k : Int) + 1) % 4 < 4 := by omega
      have n1 : (((k : Int) + 1) % 4).toNat = (k + 1) % 4 := by omega
      go_still_tail 20, (by kernel_rfl)
      clear e1 e2 e3 e4 e5 e6 e7 e8 n0 n4 n1
      skip
      change wpList _ _ _ _ _ wr.drew
      have HW2 : Aside0 (wr.drew.heap[ga]? = some (.cells (nums .i64 (mixN l x k)).toArray 163 (0,0)) ∧ OnlyB w wr.drew ga) := ⟨HW.out.1, HW.out.2.drew⟩
      clear HW hc1 hc2 hc3 hf
      generalize wr.drew = w2 at HW2 ⊢
      have hc1 := nums_cell HW2.out.1 k (by rw [mix_len, HL.out]; omega)
      have hf := blk_frozen HW2.out.1 k
      go_wp2
      go_roundw
      case rel =>
        refine ⟨k + 1, by omega, by go_num, ?_, HW2.out.2.set _ _⟩
        rw [blk_set HW2.out.1]
        simp only [mixN, stepAt, nums, List.map_set, List.setIfInBounds_toArray, EP1.out, EP2.out, EP3.out]
      case measure => simp [intOf]; omega
    · go_wp2
      obtain rfl : k = 4 := by omega
      exact bodyPost_end (results_none rfl _ _ _) rfl ⟨rfl, HW.out.1, HW.out.2⟩
def isBytes (l : List Int) : Prop := ∀ x ∈ l, 0 ≤ x ∧ x ≤ 255
instance (l : List Int) : Decidable (isBytes l) := by unfold isBytes; infer_instance
def dgMix (a : List Int) (x : Int) : List Int := mixN a x 4
def dgAll (a : List Int) (xs : List Int) : List Int := xs.foldl dgMix a
def yb (n : Int) : List Int := [n % 256, (n / 256) % 256, (n / 65536) % 256, (n / 16777216) % 256]
def dgS (l : List Int) : List Int := dgAll (dgAll (dgAll [11, 22, 33, 44] l) (yb l.length)) (List.replicate 8 0)
/-- The digest. -/
def dg (l : List Int) : List Int := (dgS l).flatMap yb
def impl_Digest.f (l0 : List Int) : Option (List Int) := if isBytes l0 then (if (l0.length : Int) > 20000 then some [] else some (dg l0)) else none
theorem yb_bytes (n : Int) : isBytes (yb n) := by
  intro x hx
  simp only [yb, List.mem_cons, List.not_mem_nil, or_false] at hx
  omega
theorem yb_len (n : Int) : (yb n).length = 4 := rfl
structure DigInv (w wr : World) (a : List Int) : Prop where
  A : wr.heap[w.heap.size]? = some (.cells (nums .i64 a).toArray 163 (0,0))
  M : wr.heap[w.heap.size + 1]? = some (.cells (nums .i64 mulT).toArray 163 (0,0))
  B : Below w.heap.size w wr
  len : a.length = 4
  bd : ∀ j, j < 4 → 0 ≤ a.getD j 0 ∧ a.getD j 0 < 2147483579
theorem DigInv.to {w wr w' : World} {a : List Int} {x : Int} (h : DigInv w wr a) (hx : 0 ≤ x) (h1 : w'.heap[w.heap.size]? = some (.cells (nums .i64 (mixN a x 4)).toArray 163 (0,0))) (h2 : OnlyB wr w' w.heap.size) : DigInv w w' (dgMix a x) :=
  ⟨h1, (h2.block _ (by omega)).trans h.M, ⟨h2.os.trans h.B.os, h2.tape.trans h.B.tape, h2.output.trans h.B.output, by rw [h2.size]; exact h.B.size, fun k hk => (h2.block k (by omega)).trans (h.B.block k hk)⟩, by rw [dgMix, mix_len, h.len], mix_bd a x hx h.len h.bd 4 (by omega)⟩
theorem DigInv.drew {w wr : World} {a : List Int} (h : DigInv w wr a) : DigInv w wr.drew a := ⟨h.A, h.M, h.B.drew, h.len, h.bd⟩
/-- What is made or written above. -/
theorem DigInv.keep {w wr w' : World} {a : List Int} (h : DigInv w wr a) (hb : Below (w.heap.size + 2) wr w') : DigInv w w' a :=
  ⟨(hb.block _ (by omega)).trans h.A, (hb.block _ (by omega)).trans h.M, h.B.trans (hb.mono (by omega)), h.len, h.bd⟩
theorem DigInv.lt {w wr : World} {a : List Int} (h : DigInv w wr a) : w.heap.size + 2 ≤ wr.heap.size := blk_lt h.M
theorem eat_inv {w wr : World} {a : List Int} (h : DigInv w wr a) (x : Int) (hx0 : 0 ≤ x) (hx1 : x ≤ 255) :
    Calls Try.prog 165 #[.int .u8 x, .pointer (some ⟨w.heap.size, 0, none⟩), .pointer (some ⟨w.heap.size + 1, 0, none⟩)] wr fun e w' => e = .returned (.tuple #[]) ∧ DigInv w w' (dgMix a x) ∧ OnlyB wr w' w.heap.size :=
  (eat_calls x a h.len h.bd _ _ wr hx0 hx1 h.A h.M (by omega)).mono fun e w' ⟨he, h1, h2⟩ => ⟨he, h.to hx0 h1 h2, h2⟩
theorem DigInv.start (w : World) : DigInv w ((w.alloc (.cells #[.int .i64 11, .int .i64 22, .int .i64 33, .int .i64 44] 163)).alloc (.cells #[.int .i64 1103515245, .int .i64 69069, .int .i64 1664525, .int .i64 22695477] 163)) [11, 22, 33, 44] :=
  ⟨blk_alloc (blk_new w _) _, by have := blk_new (w.alloc (.cells #[.int .i64 11, .int .i64 22, .int .i64 33, .int .i64 44] 163)) (.cells (nums .i64 mulT).toArray 163 (0,0)); simpa [nums, mulT] using this, ((Below.refl _ _).alloc (Nat.le_refl _) _).alloc (by simp) _, rfl, by decide⟩
theorem rd_mem {l : List Int} {k : Nat} (h : k < l.length) : rd l k ∈ l := by
  simp [rd, List.getD_eq_getElem?_getD, List.getElem?_eq_getElem h]
theorem take_snoc_rd {l : List Int} {k : Nat} (h : k < l.length) : l.take (k + 1) = l.take k ++ [rd l k] := by
  rw [List.take_succ_eq_append_getElem h]; simp [rd, List.getD_eq_getElem?_getD, List.getElem?_eq_getElem h]
theorem dgAll_nil (a : List Int) : dgAll a [] = a := rfl
theorem dgAll_snoc (a l : List Int) (x : Int) : dgAll a (l ++ [x]) = dgMix (dgAll a l) x := by simp [dgAll]
theorem R_only {α : Type} {d : Kd α} {e base : Nat} {w w' : World} {ok : Nat → Prop} {v : Value} {xs : List α} (h : d.R e w base ok v xs) {g : Nat} (ho : OnlyB w w' g) (hg : g < base) : d.R e w' base ok v xs :=
  Kd.R_mono (Kd.R_move (Kd.R_bound h) (fun k hk => ho.block k (by have := hk.2.1; omega))) (fun _ hk => hk.1)
theorem R_at {e base n c : Nat} {w : World} {ok : Nat → Prop} {kd : IntKind} {A : Option Addr} {xs : List Int} (h : (Kd.int kd).R e w base ok (.slice A n c) xs) (k : Nat) (hk : k < xs.length) :
    ∃ ad, A = some ad ∧ w.cell? (ad.add k) = some (.int kd (rd xs k)) := by
  obtain ⟨A', c', he, _, hC⟩ := Kd.R_reads h
  injection he with h1 h2 h3
  subst h1
  obtain ⟨ad, h4, h5⟩ := Kd.at_int hC k (by omega) (by omega)
  exact ⟨ad, h4, by simpa using h5⟩
theorem agg4_index0 (b0 b1 b2 b3 : Int) (W : World) : (Instr.index 163 (.agg #[.int .i64 b0, .int .i64 b1, .int .i64 b2, .int .i64 b3]) (.int .i64 0)).run Try.prog W = .ok (.int .i64 b0) W := by kernel_rfl
theorem agg4_index1 (b0 b1 b2 b3 : Int) (W : World) : (Instr.index 163 (.agg #[.int .i64 b0, .int .i64 b1, .int .i64 b2, .int .i64 b3]) (.int .i64 1)).run Try.prog W = .ok (.int .i64 b1) W := by kernel_rfl
theorem agg4_index2 (b0 b1 b2 b3 : Int) (W : World) : (Instr.index 163 (.agg #[.int .i64 b0, .int .i64 b1, .int .i64 b2, .int .i64 b3]) (.int .i64 2)).run Try.prog W = .ok (.int .i64 b2) W := by kernel_rfl
theorem agg4_index3 (b0 b1 b2 b3 : Int) (W : World) : (Instr.index 163 (.agg #[.int .i64 b0, .int .i64 b1, .int .i64 b2, .int .i64 b3]) (.int .i64 3)).run Try.prog W = .ok (.int .i64 b3) W := by kernel_rfl
theorem agg4_index (b0 b1 b2 b3 : Int) (k : Nat) (hk : k < 4) (W : World) : (Instr.index 163 (.agg #[.int .i64 b0, .int .i64 b1, .int .i64 b2, .int .i64 b3]) (.int .i64 (k : Int))).run Try.prog W = .ok (.int .i64 (rd [b0, b1, b2, b3] k)) W := by
  rcases k with _ | _ | _ | _ | k
  · exact agg4_index0 b0 b1 b2 b3 W
  · exact agg4_index1 b0 b1 b2 b3 W
  · exact agg4_index2 b0 b1 b2 b3 W
  · exact agg4_index3 b0 b1 b2 b3 W
  · omega
set_option maxHeartbeats 1000000 in
set_option maxRecDepth 100000 in
theorem impl_Digest.calls (A0 : Option Addr) (c0 : Nat) (l0 : List Int) (r : List Int) (w : World) (hr0 : Kd.C (Kd.int .u8) w A0 l0.length l0) (hc0 : l0.length ≤ c0) (h : impl_Digest.f l0 = some r) :
    Calls Try.prog 132 #[.slice A0 l0.length c0] w fun e w' => ∃ v0_ : Value, e = .returned (v0_) ∧ Kd.R (Kd.int .u8) 5 w' w.heap.size (fun _ => True) v0_ r ∧ Below w.heap.size w w' := by
  have HR0 := Aside0.mk hr0
  have HC0 := Aside0.mk hc0
  clear hr0 hc0
  unfold impl_Digest.f at h
  by_cases hb : isBytes l0
  case neg => rw [if_neg hb] at h; cases h
  rw [if_pos hb] at h
  have HBY := Aside0.mk hb
  clear hb
  by_cases hbig : (l0.length : Int) > 20000
  · rw [if_pos hbig] at h
    obtain rfl := Option.some.inj h
    clear h
    go_enter Try.func132, Try.ntmps132
    go_wp2
    go_ret
    exact ⟨_, rfl, Kd.R_nil _ _ _ _ _, Below.refl _ _⟩
  · rw [if_neg hbig] at h
    obtain rfl := Option.some.inj h
    clear h
    go_enter Try.func132, Try.ntmps132
    go_wp2
    have HI := Aside0.mk (DigInv.start w)
    generalize ((w.alloc (.cells #[.int .i64 11, .int .i64 22, .int .i64 33, .int .i64 44] 163)).alloc (.cells #[.int .i64 1103515245, .int .i64 69069, .int .i64 1664525, .int .i64 22695477] 163)) = w2 at HI ⊢
    go_loopw [21] (fun i wr => ∃ k : Nat, k ≤ l0.length ∧ i = .int .i64 k ∧ Aside0 (DigInv w wr (dgAll [11, 22, 33, 44] (l0.take k)))) (fun i _ => l0.length - (intOf i).toNat)
    case atStart => exact ⟨0, by omega, rfl, HI⟩
    case round =>
      clear HI
      obtain ⟨k, hk, rfl, HW⟩ := hrel
      by_cases hlt : k < l0.length
      · obtain ⟨ad, rfl, hcell⟩ := Kd.at_int (Kd.C_below HR0.out HW.out.B) k (by omega) (by omega)
        have hby := HBY.out (rd l0 k) (rd_mem hlt)
        obtain ⟨x, ex⟩ : ∃ x, x = rd l0 k := ⟨_, rfl⟩
        rw [Int.toNat_natCast] at hcell
        rw [← ex] at hcell hby
        have EX := Aside0.mk ex
        clear ex
        go_wp2_with (go_at_call 165; refine (eat_inv HW.out x hby.1 hby.2).mono ?_; rintro e w' ⟨rfl, HN, _⟩; replace HN := Aside0.mk HN)
        go_roundw
        case rel => exact ⟨k + 1, by omega, by go_num, ⟨by rw [take_snoc_rd hlt, ← EX.out, dgAll_snoc]; exact HN.out⟩⟩
        case measure => simp [intOf]; omega
      · obtain rfl : k = l0.length := by omega
        rw [List.take_length] at HW
        clear hlt hk
        have HX := HW
        go_wp2_with (go_at_call 79; refine (impl_ybytes.calls (l0.length : Int) (yb l0.length) _ rfl).mono ?_; rintro e w1 ⟨v1, rfl, HV, HB1⟩; obtain ⟨A1, c1, rfl⟩ := Kd.R_slice HV; replace HW := Aside0.mk (HW.out.keep (HB1.mono HW.out.lt)); replace HV := Aside0.mk (Kd.R_lower HV (base' := w.heap.size + 2) (DigInv.lt HX.out)); clear HB1)
        clear HX
        have HYB := Aside0.mk (yb_bytes l0.length)
        have hyl : (yb (l0.length : Int)).length = 4 := rfl
        replace hyl := Aside0.mk hyl
        go_loopw [33] (fun i wr => ∃ k : Nat, k ≤ (yb l0.length).length ∧ i = .int .i64 k ∧ Aside0 (DigInv w wr (dgAll (dgAll [11, 22, 33, 44] l0) ((yb l0.length).take k)) ∧ Kd.R (Kd.int .u8) 5 wr (w.heap.size + 2) (fun _ => True) (.slice A1 (yb (l0.length : Int)).length c1) (yb l0.length))) (fun i _ => (yb l0.length).length - (intOf i).toNat)
        case atStart => exact ⟨0, by omega, rfl, ⟨HW.out, HV.out⟩⟩
        case round =>
          clear HW HV
          obtain ⟨k, hk, rfl, HW⟩ := hrel
          by_cases hlt : k < (yb l0.length).length
          · obtain ⟨ad, rfl, hcell⟩ := R_at HW.out.2 k hlt
            have hby := HYB.out (rd (yb l0.length) k) (rd_mem hlt)
            obtain ⟨x, ex⟩ : ∃ x, x = rd (yb l0.length) k := ⟨_, rfl⟩
            rw [← ex] at hcell hby
            have EX := Aside0.mk ex
            clear ex
            have hyl5 : (yb (l0.length : Int)).length ≤ 4 := Nat.le_of_eq hyl.out
            go_wp2_with (go_at_call 165; refine (eat_inv HW.out.1 x hby.1 hby.2).mono ?_; rintro e w' ⟨rfl, HN, HO⟩; replace HN := Aside0.mk HN; replace HO := Aside0.mk (R_only HW.out.2 HO (by omega)))
            go_roundw
            case rel => exact ⟨k + 1, by omega, by go_num, ⟨by rw [take_snoc_rd hlt, ← EX.out, dgAll_snoc]; exact HN.out, HO.out⟩⟩
            case measure => simp [intOf]; omega
          · obtain rfl : k = (yb l0.length).length := by omega
            rw [List.take_length] at HW
            clear hlt hk
            replace HW := Aside0.mk HW.out.1
            go_wp2
            go_loopw [41] (fun i wr => ∃ k : Nat, k ≤ 8 ∧ i = .int .i64 k ∧ Aside0 (DigInv w wr (dgAll (dgAll (dgAll [11, 22, 33, 44] l0) (yb l0.length)) (List.replicate k 0)))) (fun i _ => 8 - (intOf i).toNat)
            case atStart => exact ⟨0, by omega, rfl, ⟨by rw [List.replicate_zero, dgAll_nil]; exact HW.out⟩⟩
            case round =>
              clear HW
              obtain ⟨k, hk, rfl, HW⟩ := hrel
              by_cases hlt : k < 8
              · go_wp2_with (go_at_call 165; refine (eat_inv HW.out 0 (by omega) (by omega)).mono ?_; rintro e w' ⟨rfl, HN, HO⟩; clear HO; replace HN := Aside0.mk HN)
                go_roundw
                case rel => exact ⟨k + 1, by omega, by go_num, ⟨by rw [List.replicate_succ', dgAll_snoc]; exact HN.out⟩⟩
                case measure => simp [intOf]; omega
              · obtain rfl : k = 8 := by omega
                rw [show ((8 : Nat) : Int) = 8 from rfl]
                clear hlt hk
                replace HW : Aside0 (DigInv w wr (dgS l0)) := HW
                obtain ⟨b0, b1, b2, b3, eb⟩ : ∃ b0 b1 b2 b3, dgS l0 = [b0, b1, b2, b3] := by
                  have := HW.out.len
                  match dgS l0, this with
                  | [b0, b1, b2, b3], _ => exact ⟨b0, b1, b2, b3, rfl⟩
                have hb0 : wr.cell? ⟨w.heap.size, 0, none⟩ = some (.int .i64 b0) := by rw [blk_cell HW.out.A, eb]; rfl
                have hb1 : wr.cell? ⟨w.heap.size, 1, none⟩ = some (.int .i64 b1) := by rw [blk_cell HW.out.A, eb]; rfl
                have hb2 : wr.cell? ⟨w.heap.size, 2, none⟩ = some (.int .i64 b2) := by rw [blk_cell HW.out.A, eb]; rfl
                have hb3 : wr.cell? ⟨w.heap.size, 3, none⟩ = some (.int .i64 b3) := by rw [blk_cell HW.out.A, eb]; rfl
                replace eb := Aside0.mk eb
                go_wp2
                replace HW := Aside0.mk HW.out.B
                clear hb0 hb1 hb2 hb3 hbig
                go_loopw [47, 10] (fun i v W => ∃ (k : Nat) (ys : List Int), k ≤ 4 ∧ i = .int .i64 k ∧ Aside0 (ys = ([b0, b1, b2, b3].take k).flatMap yb ∧ ys.length = 4 * k ∧ Kd.R (Kd.int .u8) 5 W w.heap.size (fun _ => True) v ys ∧ Below w.heap.size w W)) (fun i _ _ => 4 - (intOf i).toNat)
                case atStart => exact ⟨0, [], by omega, rfl, ⟨rfl, by simp, Kd.R_nil _ _ _ _ _, HW.out⟩⟩
                case round =>
                  clear HW
                  obtain ⟨k, ys, hk, rfl, HW⟩ := hrel
                  obtain ⟨A2, c2, rfl⟩ := Kd.R_slice HW.out.2.2.1
                  by_cases hlt : k < 4
                  · have hi := agg4_index b0 b1 b2 b3 k hlt
                    obtain ⟨q, eq⟩ : ∃ q, q = rd [b0, b1, b2, b3] k := ⟨_, rfl⟩
                    rw [← eq] at hi
                    replace eq := Aside0.mk eq
                    obtain ⟨zs, ez⟩ : ∃ zs, zs = yb q := ⟨_, rfl⟩
                    have hz : Aside0 (impl_ybytes.f q = some zs ∧ zs.length = 4) := ⟨by rw [ez]; rfl, by rw [ez]; rfl⟩
                    replace ez := Aside0.mk ez
                    go_wp2_with (first | (go_at_call 79; refine (impl_ybytes.calls q zs _ hz.out.1).mono ?_; rintro e w1 ⟨v1, rfl, HV, HB1⟩; obtain ⟨A3, c3, rfl, hc3, hC3⟩ := Kd.R_reads HV; have HW2 := Aside0.mk (⟨Kd.R_below HW.out.2.2.1 HB1, below_step HW.out.2.2.2 HB1⟩ : _ ∧ _); replace HV := Aside0.mk hC3; clear hC3 HB1) | ((with_reducible refine gate_builtin (b := .append) (xs := #[.tmp 50, .tmp 52]) rfl ?_); at_builtin; refine Kd.R_append_row (Value.int .u8) 0 (w0 := w) w.heap.size rfl (.tmp 50) (.tmp 52) 22 5 (.int .u8 0) 1 rfl Try.underlying22 info5 rfl (by decide) _ ys zs _ _ _ (fun _ => True) rfl rfl (fun _ _ => trivial) HW2.out.1 HV.out HW2.out.2 HW2.out.2.size ?aL ?_; (case aL => have h1 := HW.out.2.1; have h2 := hz.out.2; omega); intro v1 w3 hr hb hg hat; replace hr := Aside0.mk hr; replace hb := Aside0.mk hb; clear hg hat))
                    go_roundw
                    case rel => exact ⟨k + 1, ys ++ zs, by omega, by go_num, ⟨by rw [take_snoc_rd (by simpa using hlt), ← eq.out, List.flatMap_append, ← HW.out.1, ez.out]; simp, by have h1 := HW.out.2.1; have h2 := hz.out.2; rw [List.length_append]; omega, hr.out, hb.out⟩⟩
                    case measure => simp [intOf]; omega
                  · obtain rfl : k = 4 := by omega
                    go_wp2
                    go_ret
                    refine ⟨_, rfl, ?_, HW.out.2.2.2⟩
                    have e1 := HW.out.1
                    rw [List.take_of_length_le (by simp)] at e1
                    have e2 : ys = dg l0 := by rw [e1, dg, eb.out]
                    rw [← e2]
                    exact HW.out.2.2.1
end Go.Proofs.Ytccbjchlcelkgaa.Pr
-- Written by mkprint.py (a program of this repo, which drives the print.py of the kit): Lean checks it.
namespace Go.Proofs.Ytccbjchlcelkgaa.Pr
open Go.RowKit Go.Proofs.YtccbjchlcelkgaaW.PrintWords Go.Proofs.YtccbjchlcelkgaaW.PrintLast Go.Proofs.YtccbjchlcelkgaaW.PrintMore
attribute [local go_sem] max2_int min2_int max_two min_two max_three min_three max_four min_four   -- for this text's walks alone
set_option linter.unusedVariables false
set_option linter.unusedSimpArgs false

/-! ### spec_l1Cur_bytes: function 65 -/
def spec_l1Cur_bytes.l0 : Nat → List Int → Int → List Int → Int → Int → Option (List Int × Int × Int)
  | 0, _, _, _, _, _ => none
  | k + 1, x5, x6, x1000, x1001, x1002 => if x6 > 0 then ((spec_l1Cur_next.f x1000 x1001 x1002).bind fun bt104 => (if x5.length < 140737488355328 then (spec_l1Cur_bytes.l0 k (x5 ++ [(bt104.1) % 256]) (wrap64 (x6 - 1)) x1000 bt104.2.1 bt104.2.2) else (none))) else (some (x5, x1001, x1002))
def spec_l1Cur_bytes.f (k : Nat) (s0_0 : List Int) (s0_1 : Int) (s0_2 : Int) (a1 : Int) : Option (List Int × Int × Int) := (spec_l1Cur_pick.f s0_0 s0_1 s0_2 a1).bind fun bt101 => (spec_l1Cur_bytes.l0 k ([] : List Int) bt101.1 s0_0 bt101.2.1 bt101.2.2)
theorem spec_l1Cur_bytes.mono_l : ∀ k, (∀ y0 y1 y2 y3 y4, LeO (spec_l1Cur_bytes.l0 k y0 y1 y2 y3 y4) (spec_l1Cur_bytes.l0 (k + 1) y0 y1 y2 y3 y4))
  | 0 => fun _ _ _ _ _ r h => by simp [spec_l1Cur_bytes.l0] at h
  | k + 1 => by
    have ih0 := spec_l1Cur_bytes.mono_l k
    · intro y0 y1 y2 y3 y4
      unfold spec_l1Cur_bytes.l0
      repeat' first
      | (with_reducible exact ih0 _ _ _ _ _)
      | (with_reducible exact LeO.refl _)
      | (with_reducible exact LeO.none _)
      | (with_reducible refine LeO.ite ?_ ?_)
      | (with_reducible refine LeO.bind ?_ (fun _ => ?_))
      | exact ih0 _ _ _ _ _
      | exact LeO.none _
      | refine LeO.ite ?_ ?_
      | refine LeO.bind ?_ (fun _ => ?_)
theorem spec_l1Cur_bytes.mono : ∀ a0 a1 a2 a3 k, LeO (spec_l1Cur_bytes.f k a0 a1 a2 a3) (spec_l1Cur_bytes.f (k + 1) a0 a1 a2 a3) := by
  intro a0 a1 a2 a3 k
  have ih0 := spec_l1Cur_bytes.mono_l k
  unfold spec_l1Cur_bytes.f
  repeat' first
      | (with_reducible exact ih0 _ _ _ _ _)
      | (with_reducible exact LeO.refl _)
      | (with_reducible exact LeO.none _)
      | (with_reducible refine LeO.ite ?_ ?_)
      | (with_reducible refine LeO.bind ?_ (fun _ => ?_))
      | exact ih0 _ _ _ _ _
      | exact LeO.none _
      | refine LeO.ite ?_ ?_
      | refine LeO.bind ?_ (fun _ => ?_)
set_option maxHeartbeats 8000000 in
set_option maxRecDepth 100000 in
theorem spec_l1Cur_bytes.calls (k : Nat) (g : Nat) (s0_0 : List Int) (s0_1 : Int) (s0_2 : Int) (a1 : Int) (r1 : List Int) (r2 : Int) (r3 : Int) (w0 w : World) (hI : IsS82 w0 w g s0_0 s0_1 s0_2) (hB : Below w0.heap.size w0 w) (h : spec_l1Cur_bytes.f k s0_0 s0_1 s0_2 a1 = some (r1, r2, r3)) :
    Calls Try.prog 65 #[.pointer (some ⟨g, 0, none⟩), .int .i64 a1] w fun e w' => ∃ v0_ : Value, e = .returned (v0_) ∧ Kd.R (Kd.int .u8) 5 w' w.heap.size (fun _ => True) v0_ r1 ∧ IsS82 w0 w' g s0_0 r2 r3 ∧ Below w0.heap.size w0 w' ∧ KeepBut w w' g none := by
  have HI0 := Aside0.mk hI
  have HK := Aside0.mk (KeepBut.refl w g none)
  have HL := Aside0.mk hB.size
  clear hI
  have HW0 := Aside0.mk hB.size
  have HB := Aside0.mk hB
  clear hB
  have H : ((spec_l1Cur_pick.f s0_0 s0_1 s0_2 a1).bind fun bt101 => (spec_l1Cur_bytes.l0 k ([] : List Int) bt101.1 s0_0 bt101.2.1 bt101.2.2)) = some (r1, r2, r3) := h
  clear h
  replace H := Option.bind_eq_some_iff.mp H
  obtain ⟨⟨t101, t102, t103⟩, A30, H⟩ := H
  replace H : (spec_l1Cur_bytes.l0 k ([] : List Int) t101 s0_0 t102 t103) = some (r1, r2, r3) := H
  have A3 := Aside0.mk A30
  clear A30
  have H' := Aside0.mk H
  clear H
  go_enter Try.func65, Try.ntmps65
  go_wp2_with (first | ((with_reducible refine gate_callee (f := 54) rfl ?_); refine goesL_ (some 9) rfl rfl Try.func54 (by kernel_rfl) rfl #[.pointer (some ⟨g, 0, none⟩), .int .i64 a1] rfl (by (try simp only [List.map_toArray, List.map_cons, List.map_nil]); first | done | rfl | (simp only [List.length_drop, List.length_take]; rfl)) ?_; (with_reducible refine (spec_l1Cur_pick.calls g s0_0 s0_1 s0_2 a1 t101 t102 t103 w0 _ ?side1 ?side2 A3.out).mono ?_); (case side1 => repeat (first | (with_reducible first | exact HI0.out | apply IsS82.alloc | apply IsS82.drewN | apply IsS82.drew | apply IsS82.set_1 | apply IsS82.set_2) | exact HI0.out)); (case side2 => repeat (first | (with_reducible first | exact HB.out | apply below_alloc | apply pw_below_drewN | apply below_drew1 | refine below_set ?_ (IsS82.ge HI0.out)) | exact HB.out)); rintro e w4 ⟨rfl, hi, hb, hk⟩; refine ⟨_, rfl, ?_⟩; have n0_ := Aside0.mk (KeepBut.trans (by repeat (first | (with_reducible first | exact HK.out | apply KeepBut.set_ | apply keep_drewN | apply keep_drew | apply keep_alloc) | exact HK.out)) hk (.inl rfl)); have n1_ := Aside0.mk (hb); have n2_ := Aside0.mk (hi); clear HK; clear HB; clear HI0; have HK := n0_; have HB := n1_; have HI0 := n2_; clear n0_ n1_ n2_; (try clear hb); (try clear hb2); (try clear hk); (try clear hi)))
  go_loopg [5, 6] k (fun kq v5 v6 w' => ∃ (x5_1 : List Int) (x6_1 : Int) (x1001_1 : Int) (x1002_1 : Int), v6 = .int .i64 x6_1 ∧ Aside0 (spec_l1Cur_bytes.l0 kq x5_1 x6_1 s0_0 x1001_1 x1002_1 = some (r1, r2, r3)) ∧ Aside0 (kq ≤ k) ∧ Aside0 (Kd.R (Kd.int .u8) 5 w' w.heap.size (fun _ => True) v5 x5_1) ∧ Aside0 (IsS82 w0 w' g s0_0 x1001_1 x1002_1) ∧ Aside0 (KeepBut w w' g none) ∧ Aside0 (Below w0.heap.size w0 w'))
  case atStart => exact ⟨(([] : List Int)), (t101), (t102), (t103), (by first | rfl | (simp; done) | (simp [*]; done)), H', ⟨Nat.le_refl _⟩, ⟨by first | exact Kd.R_nil _ _ _ _ _ | exact Kd.N_nil _ _ _ _ _ | exact Kd.V_nil _ _ _ _ _ | exact Kd.Q_nil _ _ _ _ _ | exact Kd.S_nil _ _ _ _ _⟩, ⟨by repeat (first | (with_reducible first | exact HI0.out | apply IsS82.alloc | apply IsS82.drewN | apply IsS82.drew | apply IsS82.set_1 | apply IsS82.set_2) | exact HI0.out)⟩, ⟨by repeat (first | (with_reducible first | exact HK.out | apply KeepBut.set_ | apply keep_drewN | apply keep_drew | apply keep_alloc) | exact HK.out)⟩, ⟨by repeat (first | (with_reducible first | exact HB.out | apply below_alloc | apply pw_below_drewN | apply below_drew1 | refine below_set ?_ (IsS82.ge HI0.out)) | exact HB.out)⟩⟩
  case round =>
    clear H'
    try clear p2
    obtain ⟨x5_1, x6_1, x1001_1, x1002_1, rfl, HA, HK1, HO_5, HI0, HK, HB⟩ := hrel
    cases gk with
    | zero => exact absurd HA.out (by simp [spec_l1Cur_bytes.l0])
    | succ k1 =>
      have H := HA.out
      clear HA
      simp only [spec_l1Cur_bytes.l0] at H
      by_cases c5 : x6_1 > 0
      · rw [if_pos c5] at H
        have c5b0 : decide (0 < x6_1) = true := decide_eq_true c5
        clear c5
        replace H := Option.bind_eq_some_iff.mp H
        obtain ⟨⟨t104, t105, t106⟩, A60, H⟩ := H
        replace H : (if x5_1.length < 140737488355328 then (spec_l1Cur_bytes.l0 k1 (x5_1 ++ [(t104) % 256]) (wrap64 (x6_1 - 1)) s0_0 t105 t106) else (none)) = some (r1, r2, r3) := H
        have A6 := Aside0.mk A60
        clear A60
        by_cases c7 : x5_1.length < 140737488355328
        · rw [if_pos c7] at H
          have LMc7 := Aside0.mk c7
          clear c7
          obtain ⟨y107, hy107⟩ : ∃ y_ : List Int, y_ = (x5_1 ++ [(t104) % 256]) := ⟨_, rfl⟩
          replace H : (spec_l1Cur_bytes.l0 k1 y107 (wrap64 (x6_1 - 1)) s0_0 t105 t106) = some (r1, r2, r3) := by first | (rw [hy107]; with_reducible exact H) | (have H2_ := (Option.bind_some _ _).symm.trans H; rw [hy107]; with_reducible exact H2_) | (have H2_ := (Option.bind_some _ _).symm.trans H; with_reducible exact H2_) | with_reducible exact H | (rw [hy107]; exact H) | exact H
          have Ny107 := Aside0.mk hy107
          clear hy107
          have H' := Aside0.mk H
          clear H
          go_wp2_with (first | ((with_reducible refine gate_callee (f := 122) rfl ?_); refine goesL_ (some 16) rfl rfl Try.func122 (by kernel_rfl) rfl #[.pointer (some ⟨g, 0, none⟩)] rfl (by (try simp only [List.map_toArray, List.map_cons, List.map_nil]); first | done | rfl | (simp only [List.length_drop, List.length_take]; rfl)) ?_; (with_reducible refine (spec_l1Cur_next.calls g s0_0 x1001_1 x1002_1 t104 t105 t106 w0 _ ?side1 ?side2 A6.out).mono ?_); (case side1 => repeat (first | (with_reducible first | exact HI0.out | apply IsS82.alloc | apply IsS82.drewN | apply IsS82.drew | apply IsS82.set_1 | apply IsS82.set_2) | exact HI0.out)); (case side2 => repeat (first | (with_reducible first | exact HB.out | apply below_alloc | apply pw_below_drewN | apply below_drew1 | refine below_set ?_ (IsS82.ge HI0.out)) | exact HB.out)); rintro e w8 ⟨rfl, hi, hb, hk⟩; refine ⟨_, rfl, ?_⟩; have n0_ := Aside0.mk (Kd.R_mono (Kd.R_keep (IsS82.apart (show IsS82 w0 _ g s0_0 x1001_1 x1002_1 from by repeat (first | (with_reducible first | exact HI0.out | apply IsS82.alloc | apply IsS82.drewN | apply IsS82.drew | apply IsS82.set_1 | apply IsS82.set_2) | exact HI0.out)) (by (with_reducible repeat (first | apply Kd.R_alloc | apply Kd.R_drewN | apply Kd.R_drew)); exact HO_5.out) (by decide)) hk (fun _ h => h.2)) (fun _ h => h.1)); have n1_ := Aside0.mk (KeepBut.trans (by repeat (first | (with_reducible first | exact HK.out | apply KeepBut.set_ | apply keep_drewN | apply keep_drew | apply keep_alloc) | exact HK.out)) hk (.inl rfl)); have n2_ := Aside0.mk (hb); have n3_ := Aside0.mk (hi); clear HO_5; clear HK; clear HB; clear HI0; have HO_5 := n0_; have HK := n1_; have HB := n2_; have HI0 := n3_; clear n0_ n1_ n2_ n3_; (try clear hb); (try clear hb2); (try clear hk); (try clear hi)) | ((with_reducible refine gate_builtin (b := .append) (xs := #[.tmp 14, .tmp 18]) rfl ?_); at_builtin; refine Kd.R_append (Kd.int .u8) w.heap.size rfl (.tmp 14) (.tmp 18) 22 5 (.int .u8 0) 1 rfl Try.underlying22 info5 rfl (by decide) (by omega) u5 x5_1 ((t104) % 256) [.int .u8 ((t104) % 256)] (fun _ => True) (fun _ => False) rfl rfl ?aP (fun _ hk => hk.elim) ?aF ?aO (Below.refl _ _) ?aS ?aL ?_; (case aP => exact rfl); (case aF => exact (fun _ _ => trivial)); (case aO => exact (by (with_reducible repeat (first | apply Kd.R_alloc | apply Kd.R_drewN | apply Kd.R_drew)); exact HO_5.out)); (case aS => exact (keep_size (w := w) (g := g) (row := none) (by repeat (first | (with_reducible first | exact HK.out | apply KeepBut.set_ | apply keep_drewN | apply keep_drew | apply keep_alloc) | exact HK.out)))); (case aL => have := LMc7.out; omega); intro v108 w9 ho hb hg hat; rw [← Ny107.out] at ho; have n0_ := Aside0.mk (IsS82.grown (by repeat (first | (with_reducible first | exact HI0.out | apply IsS82.alloc | apply IsS82.drewN | apply IsS82.drew | apply IsS82.set_1 | apply IsS82.set_2) | exact HI0.out)) hg (IsS82.own_ne HI0.out HO_5.out (by decide))); have n1_ := Aside0.mk (below_weaken (by repeat (first | (with_reducible first | exact HB.out | apply below_alloc | apply pw_below_drewN | apply below_drew1 | refine below_set ?_ (IsS82.ge HI0.out)) | exact HB.out)) HL.out hb); have n2_ := Aside0.mk (KeepBut.trans (by repeat (first | (with_reducible first | exact HK.out | apply KeepBut.set_ | apply keep_drewN | apply keep_drew | apply keep_alloc) | exact HK.out)) (KeepBut.of_grown hg g) (Kd.R_base2 HO_5.out)); have n3_ := Aside0.mk (ho); clear HI0; clear HB; clear HK; clear HO_5; have HI0 := n0_; have HB := n1_; have HK := n2_; have HO109 := n3_; clear n0_ n1_ n2_ n3_; clear ho hb hg hat))
          go_roundg k1
          case measure => have := HK1.out; omega
          case rel => exact ⟨(y107), (wrap64 (x6_1 - 1)), (t105), (t106), (by first | rfl | (simp; done) | (simp [*]; done)), H', ⟨by have := HK1.out; omega⟩, ⟨by (with_reducible repeat (first | apply Kd.R_alloc | apply Kd.R_drewN | apply Kd.R_drew)); exact HO109.out⟩, ⟨by repeat (first | (with_reducible first | exact HI0.out | apply IsS82.alloc | apply IsS82.drewN | apply IsS82.drew | apply IsS82.set_1 | apply IsS82.set_2) | exact HI0.out)⟩, ⟨by repeat (first | (with_reducible first | exact HK.out | apply KeepBut.set_ | apply keep_drewN | apply keep_drew | apply keep_alloc) | exact HK.out)⟩, ⟨by repeat (first | (with_reducible first | exact HB.out | apply below_alloc | apply pw_below_drewN | apply below_drew1 | refine below_set ?_ (IsS82.ge HI0.out)) | exact HB.out)⟩⟩
        · rw [if_neg c7] at H
          exact absurd H (by simp)
      · rw [if_neg c5] at H
        have c5b0 : decide (0 < x6_1) = false := decide_eq_false c5
        clear c5
        simp only [Option.some.injEq, Prod.mk.injEq] at H
        obtain ⟨rfl, rfl, rfl⟩ := H
        go_wp2
        go_ret
        exact ⟨_, by first | rfl | (simp [errW_none, errW_some] <;> rfl) | (simp [*, errW_none, errW_some] <;> rfl), by (with_reducible repeat (first | apply Kd.R_alloc | apply Kd.R_drewN | apply Kd.R_drew)); exact HO_5.out, by repeat (first | (with_reducible first | exact HI0.out | apply IsS82.alloc | apply IsS82.drewN | apply IsS82.drew | apply IsS82.set_1 | apply IsS82.set_2) | exact HI0.out), by repeat (first | (with_reducible first | exact HB.out | apply below_alloc | apply pw_below_drewN | apply below_drew1 | refine below_set ?_ (IsS82.ge HI0.out)) | exact HB.out), by repeat (first | (with_reducible first | exact HK.out | apply KeepBut.set_ | apply keep_drewN | apply keep_drew | apply keep_alloc) | exact HK.out)⟩

end Go.Proofs.Ytccbjchlcelkgaa.Pr
-- Written by mkprint.py (a program of this repo, which drives the print.py of the kit): Lean checks it.
namespace Go.Proofs.Ytccbjchlcelkgaa.Pr
open Go.RowKit Go.Proofs.YtccbjchlcelkgaaW.PrintWords Go.Proofs.YtccbjchlcelkgaaW.PrintLast Go.Proofs.YtccbjchlcelkgaaW.PrintMore
attribute [local go_sem] max2_int min2_int max_two min_two max_three min_three max_four min_four   -- for this text's walks alone
set_option linter.unusedVariables false
set_option linter.unusedSimpArgs false

/-! ### spec_l1Cur_secret: function 75 -/
def spec_l1Cur_secret.f (s0_0 : List Int) (s0_1 : Int) (s0_2 : Int) : Option (Int × Int × Int) := (spec_l1Cur_one.f s0_0 s0_1 s0_2 16).bind fun bt101 => (if bt101.1 = true then ((some (([0, (-1), 1, 1073741788, 1073741789, 1073741794] : List Int) : List Int)).bind fun y104 => ((spec_l1Cur_pick.f s0_0 bt101.2.1 bt101.2.2 6).bind fun bt107 => (if 0 ≤ bt107.1 then (if bt107.1 < (y104.length : Int) then (some (rd y104 bt107.1, bt107.2.1, bt107.2.2)) else (none)) else (none)))) else ((spec_l1Cur_pick.f s0_0 bt101.2.1 bt101.2.2 60000).bind fun bt111 => ((spec_l1Cur_pick.f s0_0 bt111.2.1 bt111.2.2 60000).bind fun bt114 => (some (wrap64 (1 + (Int.tmod (wrap64 ((wrap64 (bt111.1 * 60000)) + bt114.1)) 1073741788)), bt114.2.1, bt114.2.2)))))
set_option maxHeartbeats 8000000 in
set_option maxRecDepth 100000 in
theorem spec_l1Cur_secret.calls (g : Nat) (s0_0 : List Int) (s0_1 : Int) (s0_2 : Int) (r1 : Int) (r2 : Int) (r3 : Int) (w0 w : World) (hI : IsS82 w0 w g s0_0 s0_1 s0_2) (hB : Below w0.heap.size w0 w) (h : spec_l1Cur_secret.f s0_0 s0_1 s0_2 = some (r1, r2, r3)) :
    Calls Try.prog 75 #[.pointer (some ⟨g, 0, none⟩)] w fun e w' => e = .returned (.int .i64 r1) ∧ IsS82 w0 w' g s0_0 r2 r3 ∧ Below w0.heap.size w0 w' ∧ KeepBut w w' g none := by
  have HI0 := Aside0.mk hI
  have HK := Aside0.mk (KeepBut.refl w g none)
  have HL := Aside0.mk hB.size
  clear hI
  have HW0 := Aside0.mk hB.size
  have HB := Aside0.mk hB
  clear hB
  have H : ((spec_l1Cur_one.f s0_0 s0_1 s0_2 16).bind fun bt101 => (if bt101.1 = true then ((some (([0, (-1), 1, 1073741788, 1073741789, 1073741794] : List Int) : List Int)).bind fun y104 => ((spec_l1Cur_pick.f s0_0 bt101.2.1 bt101.2.2 6).bind fun bt107 => (if 0 ≤ bt107.1 then (if bt107.1 < (y104.length : Int) then (some (rd y104 bt107.1, bt107.2.1, bt107.2.2)) else (none)) else (none)))) else ((spec_l1Cur_pick.f s0_0 bt101.2.1 bt101.2.2 60000).bind fun bt111 => ((spec_l1Cur_pick.f s0_0 bt111.2.1 bt111.2.2 60000).bind fun bt114 => (some (wrap64 (1 + (Int.tmod (wrap64 ((wrap64 (bt111.1 * 60000)) + bt114.1)) 1073741788)), bt114.2.1, bt114.2.2)))))) = some (r1, r2, r3) := h
  clear h
  replace H := Option.bind_eq_some_iff.mp H
  obtain ⟨⟨t101, t102, t103⟩, A20, H⟩ := H
  replace H : (if t101 = true then ((some (([0, (-1), 1, 1073741788, 1073741789, 1073741794] : List Int) : List Int)).bind fun y104 => ((spec_l1Cur_pick.f s0_0 t102 t103 6).bind fun bt107 => (if 0 ≤ bt107.1 then (if bt107.1 < (y104.length : Int) then (some (rd y104 bt107.1, bt107.2.1, bt107.2.2)) else (none)) else (none)))) else ((spec_l1Cur_pick.f s0_0 t102 t103 60000).bind fun bt111 => ((spec_l1Cur_pick.f s0_0 bt111.2.1 bt111.2.2 60000).bind fun bt114 => (some (wrap64 (1 + (Int.tmod (wrap64 ((wrap64 (bt111.1 * 60000)) + bt114.1)) 1073741788)), bt114.2.1, bt114.2.2))))) = some (r1, r2, r3) := H
  have A2 := Aside0.mk A20
  clear A20
  by_cases c3 : t101 = true
  · subst c3
    have H1 : ((some (([0, (-1), 1, 1073741788, 1073741789, 1073741794] : List Int) : List Int)).bind fun y104 => ((spec_l1Cur_pick.f s0_0 t102 t103 6).bind fun bt107 => (if 0 ≤ bt107.1 then (if bt107.1 < (y104.length : Int) then (some (rd y104 bt107.1, bt107.2.1, bt107.2.2)) else (none)) else (none)))) = some (r1, r2, r3) := by rw [if_pos rfl] at H; exact H
    clear H
    have H := H1
    clear H1
    obtain ⟨y104, hy104⟩ : ∃ y_ : List Int, y_ = (([0, (-1), 1, 1073741788, 1073741789, 1073741794] : List Int)) := ⟨_, rfl⟩
    replace H : ((spec_l1Cur_pick.f s0_0 t102 t103 6).bind fun bt107 => (if 0 ≤ bt107.1 then (if bt107.1 < (y104.length : Int) then (some (rd y104 bt107.1, bt107.2.1, bt107.2.2)) else (none)) else (none))) = some (r1, r2, r3) := by first | (rw [hy104]; with_reducible exact H) | (have H2_ := (Option.bind_some _ _).symm.trans H; rw [hy104]; with_reducible exact H2_) | (have H2_ := (Option.bind_some _ _).symm.trans H; with_reducible exact H2_) | with_reducible exact H | (rw [hy104]; exact H) | exact H
    have Ny104 := Aside0.mk hy104
    clear hy104
    replace H := Option.bind_eq_some_iff.mp H
    obtain ⟨⟨t107, t108, t109⟩, A40, H⟩ := H
    replace H : (if 0 ≤ t107 then (if t107 < (y104.length : Int) then (some (rd y104 t107, t108, t109)) else (none)) else (none)) = some (r1, r2, r3) := H
    have A4 := Aside0.mk A40
    clear A40
    by_cases c5 : 0 ≤ t107
    · rw [if_pos c5] at H
      have c5b0 : decide (0 ≤ t107) = true := decide_eq_true c5
      clear c5
      by_cases c6 : t107 < (y104.length : Int)
      · rw [if_pos c6] at H
        have c6b0 : decide (t107 < (y104.length : Int)) = true := decide_eq_true c6
        clear c6
        simp only [Option.some.injEq, Prod.mk.injEq] at H
        obtain ⟨rfl, rfl, rfl⟩ := H
        go_enter Try.func75, Try.ntmps75
        go_wp2_with (first | ((with_reducible refine gate_callee (f := 68) rfl ?_); refine goesL_ (some 4) rfl rfl Try.func68 (by kernel_rfl) rfl #[.pointer (some ⟨g, 0, none⟩), .int .i64 16] rfl (by (try simp only [List.map_toArray, List.map_cons, List.map_nil]); first | done | rfl | (simp only [List.length_drop, List.length_take]; rfl)) ?_; (with_reducible refine (spec_l1Cur_one.calls g s0_0 s0_1 s0_2 16 true t102 t103 w0 _ ?side1 ?side2 A2.out).mono ?_); (case side1 => repeat (first | (with_reducible first | exact HI0.out | apply IsS82.alloc | apply IsS82.drewN | apply IsS82.drew | apply IsS82.set_1 | apply IsS82.set_2) | exact HI0.out)); (case side2 => repeat (first | (with_reducible first | exact HB.out | apply below_alloc | apply pw_below_drewN | apply below_drew1 | refine below_set ?_ (IsS82.ge HI0.out)) | exact HB.out)); rintro e w7 ⟨rfl, hi, hb, hk⟩; refine ⟨_, rfl, ?_⟩; have n0_ := Aside0.mk (KeepBut.trans (by repeat (first | (with_reducible first | exact HK.out | apply KeepBut.set_ | apply keep_drewN | apply keep_drew | apply keep_alloc) | exact HK.out)) hk (.inl rfl)); have n1_ := Aside0.mk (hb); have n2_ := Aside0.mk (hi); clear HK; clear HB; clear HI0; have HK := n0_; have HB := n1_; have HI0 := n2_; clear n0_ n1_ n2_; (try clear hb); (try clear hb2); (try clear hk); (try clear hi)) | ((with_reducible refine gate_dst (N := 5) rfl ?_); refine Kd.R_lit (Kd.int .i64) _ 3 ?hg (N := 5) ?hd (xs := ([0, (-1), 1, 1073741788, 1073741789, 1073741794] : List Int)) (inner := [.int .i64 0, .int .i64 (-1), .int .i64 1, .int .i64 1073741788, .int .i64 1073741789, .int .i64 1073741794]) (ok := fun _ => True) (okp := fun _ => True) ?hr ?hp (fun _ hk => hk) trivial (Below.refl _ _) (Nat.le_refl _) (by simp) ?_; (case hd => rfl); (case hg => rfl); (case hr => first | (go_simp; done) | (go_simp; rfl)); (case hp => exact (Reps.one (show Kd.M (Kd.int .i64) _ _ _ 0 [.int .i64 0] from rfl) (Reps.one (show Kd.M (Kd.int .i64) _ _ _ (-1) [.int .i64 (-1)] from rfl) (Reps.one (show Kd.M (Kd.int .i64) _ _ _ 1 [.int .i64 1] from rfl) (Reps.one (show Kd.M (Kd.int .i64) _ _ _ 1073741788 [.int .i64 1073741788] from rfl) (Reps.one (show Kd.M (Kd.int .i64) _ _ _ 1073741789 [.int .i64 1073741789] from rfl) (Reps.one (show Kd.M (Kd.int .i64) _ _ _ 1073741794 [.int .i64 1073741794] from rfl) (Reps.none _ _)))))))); intro v105 w8 ho9 hb hg_ hnew_; clear hg_ hnew_; (first | rw [← Ny104.out] at ho9 | (simp only [Int.reduceToNat] at ho9; rw [← Ny104.out] at ho9)); have n0_ := Aside0.mk (Kd.R_lower ho9 (keep_size (w := w) (g := g) (row := none) (by repeat (first | (with_reducible first | exact HK.out | apply KeepBut.set_ | apply keep_drewN | apply keep_drew | apply keep_alloc) | exact HK.out)))); have n1_ := Aside0.mk (IsS82.below (by repeat (first | (with_reducible first | exact HI0.out | apply IsS82.alloc | apply IsS82.drewN | apply IsS82.drew | apply IsS82.set_1 | apply IsS82.set_2) | exact HI0.out)) hb); have n2_ := Aside0.mk (KeepBut.trans (by repeat (first | (with_reducible first | exact HK.out | apply KeepBut.set_ | apply keep_drewN | apply keep_drew | apply keep_alloc) | exact HK.out)) (KeepBut.of_below hb g none) (.inl rfl)); have n3_ := Aside0.mk (below_step (by repeat (first | (with_reducible first | exact HB.out | apply below_alloc | apply pw_below_drewN | apply below_drew1 | refine below_set ?_ (IsS82.ge HI0.out)) | exact HB.out)) hb); clear HI0; clear HK; clear HB; have HO106 := n0_; have HI0 := n1_; have HK := n2_; have HB := n3_; clear n0_ n1_ n2_ n3_; clear hb ho9) | ((with_reducible refine gate_callee (f := 54) rfl ?_); refine goesL_ (some 7) rfl rfl Try.func54 (by kernel_rfl) rfl #[.pointer (some ⟨g, 0, none⟩), .int .i64 6] rfl (by (try simp only [List.map_toArray, List.map_cons, List.map_nil]); first | done | rfl | (simp only [List.length_drop, List.length_take]; rfl)) ?_; (with_reducible refine (spec_l1Cur_pick.calls g s0_0 t102 t103 6 t107 t108 t109 w0 _ ?side1 ?side2 A4.out).mono ?_); (case side1 => repeat (first | (with_reducible first | exact HI0.out | apply IsS82.alloc | apply IsS82.drewN | apply IsS82.drew | apply IsS82.set_1 | apply IsS82.set_2) | exact HI0.out)); (case side2 => repeat (first | (with_reducible first | exact HB.out | apply below_alloc | apply pw_below_drewN | apply below_drew1 | refine below_set ?_ (IsS82.ge HI0.out)) | exact HB.out)); rintro e w10 ⟨rfl, hi, hb, hk⟩; refine ⟨_, rfl, ?_⟩; have n0_ := Aside0.mk (Kd.R_mono (Kd.R_keep (IsS82.apart (show IsS82 w0 _ g s0_0 t102 t103 from by repeat (first | (with_reducible first | exact HI0.out | apply IsS82.alloc | apply IsS82.drewN | apply IsS82.drew | apply IsS82.set_1 | apply IsS82.set_2) | exact HI0.out)) (by (with_reducible repeat (first | apply Kd.R_alloc | apply Kd.R_drewN | apply Kd.R_drew)); exact HO106.out) (by decide)) hk (fun _ h => h.2)) (fun _ h => h.1)); have n1_ := Aside0.mk (KeepBut.trans (by repeat (first | (with_reducible first | exact HK.out | apply KeepBut.set_ | apply keep_drewN | apply keep_drew | apply keep_alloc) | exact HK.out)) hk (.inl rfl)); have n2_ := Aside0.mk (hb); have n3_ := Aside0.mk (hi); clear HO106; clear HK; clear HB; clear HI0; have HO106 := n0_; have HK := n1_; have HB := n2_; have HI0 := n3_; clear n0_ n1_ n2_ n3_; (try clear hb); (try clear hb2); (try clear hk); (try clear hi); obtain ⟨Ao11, co11, eo11⟩ := Kd.R_slice HO106.out; subst eo11; have p110 : 0 ≤ (t107 : Int) := of_decide_eq_true (by first | (with_reducible assumption) | assumption); have q110 : t107 < (y104.length : Int) := of_decide_eq_true (by first | (with_reducible assumption) | assumption); obtain ⟨ad110, e110, hx110_0⟩ := Kd.at_int (Kd.R_reads' HO106.out).2.2 t107 p110 q110; cases e110; replace p110 := eq_true p110; replace q110 := eq_true q110))
        go_ret
        exact ⟨by first | rfl | (simp [errW_none, errW_some] <;> rfl) | (simp [*, errW_none, errW_some] <;> rfl), by repeat (first | (with_reducible first | exact HI0.out | apply IsS82.alloc | apply IsS82.drewN | apply IsS82.drew | apply IsS82.set_1 | apply IsS82.set_2) | exact HI0.out), by repeat (first | (with_reducible first | exact HB.out | apply below_alloc | apply pw_below_drewN | apply below_drew1 | refine below_set ?_ (IsS82.ge HI0.out)) | exact HB.out), by repeat (first | (with_reducible first | exact HK.out | apply KeepBut.set_ | apply keep_drewN | apply keep_drew | apply keep_alloc) | exact HK.out)⟩
      · rw [if_neg c6] at H
        exact absurd H (by simp)
    · rw [if_neg c5] at H
      exact absurd H (by simp)
  · replace c3 := Bool.eq_false_iff.mpr c3
    subst c3
    have H1 : ((spec_l1Cur_pick.f s0_0 t102 t103 60000).bind fun bt111 => ((spec_l1Cur_pick.f s0_0 bt111.2.1 bt111.2.2 60000).bind fun bt114 => (some (wrap64 (1 + (Int.tmod (wrap64 ((wrap64 (bt111.1 * 60000)) + bt114.1)) 1073741788)), bt114.2.1, bt114.2.2)))) = some (r1, r2, r3) := by rw [if_neg (show ¬ (false = true) by decide)] at H; exact H
    clear H
    have H := H1
    clear H1
    replace H := Option.bind_eq_some_iff.mp H
    obtain ⟨⟨t111, t112, t113⟩, A120, H⟩ := H
    replace H : ((spec_l1Cur_pick.f s0_0 t112 t113 60000).bind fun bt114 => (some (wrap64 (1 + (Int.tmod (wrap64 ((wrap64 (t111 * 60000)) + bt114.1)) 1073741788)), bt114.2.1, bt114.2.2))) = some (r1, r2, r3) := H
    have A12 := Aside0.mk A120
    clear A120
    replace H := Option.bind_eq_some_iff.mp H
    obtain ⟨⟨t114, t115, t116⟩, A130, H⟩ := H
    replace H : (some (wrap64 (1 + (Int.tmod (wrap64 ((wrap64 (t111 * 60000)) + t114)) 1073741788)), t115, t116)) = some (r1, r2, r3) := H
    have A13 := Aside0.mk A130
    clear A130
    simp only [Option.some.injEq, Prod.mk.injEq] at H
    obtain ⟨rfl, rfl, rfl⟩ := H
    go_enter Try.func75, Try.ntmps75
    go_wp2_with (first | ((with_reducible refine gate_callee (f := 68) rfl ?_); refine goesL_ (some 4) rfl rfl Try.func68 (by kernel_rfl) rfl #[.pointer (some ⟨g, 0, none⟩), .int .i64 16] rfl (by (try simp only [List.map_toArray, List.map_cons, List.map_nil]); first | done | rfl | (simp only [List.length_drop, List.length_take]; rfl)) ?_; (with_reducible refine (spec_l1Cur_one.calls g s0_0 s0_1 s0_2 16 false t102 t103 w0 _ ?side1 ?side2 A2.out).mono ?_); (case side1 => repeat (first | (with_reducible first | exact HI0.out | apply IsS82.alloc | apply IsS82.drewN | apply IsS82.drew | apply IsS82.set_1 | apply IsS82.set_2) | exact HI0.out)); (case side2 => repeat (first | (with_reducible first | exact HB.out | apply below_alloc | apply pw_below_drewN | apply below_drew1 | refine below_set ?_ (IsS82.ge HI0.out)) | exact HB.out)); rintro e w14 ⟨rfl, hi, hb, hk⟩; refine ⟨_, rfl, ?_⟩; have n0_ := Aside0.mk (KeepBut.trans (by repeat (first | (with_reducible first | exact HK.out | apply KeepBut.set_ | apply keep_drewN | apply keep_drew | apply keep_alloc) | exact HK.out)) hk (.inl rfl)); have n1_ := Aside0.mk (hb); have n2_ := Aside0.mk (hi); clear HK; clear HB; clear HI0; have HK := n0_; have HB := n1_; have HI0 := n2_; clear n0_ n1_ n2_; (try clear hb); (try clear hb2); (try clear hk); (try clear hi)) | ((with_reducible refine gate_callee (f := 54) rfl ?_); refine goesL_ (some 11) rfl rfl Try.func54 (by kernel_rfl) rfl #[.pointer (some ⟨g, 0, none⟩), .int .i64 60000] rfl (by (try simp only [List.map_toArray, List.map_cons, List.map_nil]); first | done | rfl | (simp only [List.length_drop, List.length_take]; rfl)) ?_; (with_reducible refine (spec_l1Cur_pick.calls g s0_0 t102 t103 60000 t111 t112 t113 w0 _ ?side1 ?side2 A12.out).mono ?_); (case side1 => repeat (first | (with_reducible first | exact HI0.out | apply IsS82.alloc | apply IsS82.drewN | apply IsS82.drew | apply IsS82.set_1 | apply IsS82.set_2) | exact HI0.out)); (case side2 => repeat (first | (with_reducible first | exact HB.out | apply below_alloc | apply pw_below_drewN | apply below_drew1 | refine below_set ?_ (IsS82.ge HI0.out)) | exact HB.out)); rintro e w15 ⟨rfl, hi, hb, hk⟩; refine ⟨_, rfl, ?_⟩; have n0_ := Aside0.mk (KeepBut.trans (by repeat (first | (with_reducible first | exact HK.out | apply KeepBut.set_ | apply keep_drewN | apply keep_drew | apply keep_alloc) | exact HK.out)) hk (.inl rfl)); have n1_ := Aside0.mk (hb); have n2_ := Aside0.mk (hi); clear HK; clear HB; clear HI0; have HK := n0_; have HB := n1_; have HI0 := n2_; clear n0_ n1_ n2_; (try clear hb); (try clear hb2); (try clear hk); (try clear hi)) | ((with_reducible refine gate_callee (f := 54) rfl ?_); refine goesL_ (some 14) rfl rfl Try.func54 (by kernel_rfl) rfl #[.pointer (some ⟨g, 0, none⟩), .int .i64 60000] rfl (by (try simp only [List.map_toArray, List.map_cons, List.map_nil]); first | done | rfl | (simp only [List.length_drop, List.length_take]; rfl)) ?_; (with_reducible refine (spec_l1Cur_pick.calls g s0_0 t112 t113 60000 t114 t115 t116 w0 _ ?side1 ?side2 A13.out).mono ?_); (case side1 => repeat (first | (with_reducible first | exact HI0.out | apply IsS82.alloc | apply IsS82.drewN | apply IsS82.drew | apply IsS82.set_1 | apply IsS82.set_2) | exact HI0.out)); (case side2 => repeat (first | (with_reducible first | exact HB.out | apply below_alloc | apply pw_below_drewN | apply below_drew1 | refine below_set ?_ (IsS82.ge HI0.out)) | exact HB.out)); rintro e w16 ⟨rfl, hi, hb, hk⟩; refine ⟨_, rfl, ?_⟩; have n0_ := Aside0.mk (KeepBut.trans (by repeat (first | (with_reducible first | exact HK.out | apply KeepBut.set_ | apply keep_drewN | apply keep_drew | apply keep_alloc) | exact HK.out)) hk (.inl rfl)); have n1_ := Aside0.mk (hb); have n2_ := Aside0.mk (hi); clear HK; clear HB; clear HI0; have HK := n0_; have HB := n1_; have HI0 := n2_; clear n0_ n1_ n2_; (try clear hb); (try clear hb2); (try clear hk); (try clear hi)))
    go_ret
    exact ⟨by first | rfl | (simp [errW_none, errW_some] <;> rfl) | (simp [*, errW_none, errW_some] <;> rfl), by repeat (first | (with_reducible first | exact HI0.out | apply IsS82.alloc | apply IsS82.drewN | apply IsS82.drew | apply IsS82.set_1 | apply IsS82.set_2) | exact HI0.out), by repeat (first | (with_reducible first | exact HB.out | apply below_alloc | apply pw_below_drewN | apply below_drew1 | refine below_set ?_ (IsS82.ge HI0.out)) | exact HB.out), by repeat (first | (with_reducible first | exact HK.out | apply KeepBut.set_ | apply keep_drewN | apply keep_drew | apply keep_alloc) | exact HK.out)⟩

end Go.Proofs.Ytccbjchlcelkgaa.Pr
