/- Printed texts, walks and plain facts that the law FnExactRotateRing leans on, joined. -/
import Derived.Test.YtakocdkcfjkmdaaFullFnExactRotateRingB
import Derived.Deep.QuietTactic
import Derived.BigQuiet
import Derived.Laws.Cover1
namespace Go.Proofs.Ytakocdkcfjkmdaa.Pr
open Go.RowKit Go.Proofs.YtakocdkcfjkmdaaW.PrintWords Go.Proofs.YtakocdkcfjkmdaaW.PrintLast Go.Proofs.YtakocdkcfjkmdaaW.PrintMore
attribute [local go_sem] max2_int min2_int max_two min_two max_three min_three max_four min_four
set_option linter.unusedVariables false
set_option linter.unusedSimpArgs false
def vv.f (k : Nat) (a0 : Int) : Option (Bool) := if a0 ≥ 2 then (if a0 < 2147483579 then ((vx.f k a0 1073741789 2147483579).bind fun t101 => (some (t101 == 1))) else (some false)) else (some false)
set_option maxHeartbeats 8000000 in
set_option maxRecDepth 100000 in
theorem vv.calls (k : Nat) (a0 : Int) (r : Bool) (w : World) (h : vv.f k a0 = some r) :
  Calls Try.prog 41 #[.int .i64 a0] w fun e w' => e = .returned (.bool r) ∧ Drawn0 w w' := by
 have H : (if a0 ≥ 2 then (if a0 < 2147483579 then ((vx.f k a0 1073741789 2147483579).bind fun t101 => (some (t101 == 1))) else (some false)) else (some false)) = some r := h
 clear h
 by_cases c2 : a0 ≥ 2
 ·rw [if_pos c2] at H
  have c2b0 : decide (2 ≤ a0) = true := decide_eq_true c2
  clear c2
  by_cases c3 : a0 < 2147483579
  ·rw [if_pos c3] at H
   have c3b0 : decide (a0 < 2147483579) = true := decide_eq_true c3
   clear c3
   replace H := Option.bind_eq_some_iff.mp H
   obtain ⟨t101,A40,H⟩ := H
   replace H : (some (t101 == 1)) = some r := H
   have A4 := qq.mk A40
   clear A40
   obtain rfl := Option.some.inj H
   go_enter Try.func41,Try.ntmps41
   go_wp2_with (first | (go_at_call 71;(with_reducible refine (vx.calls k a0 1073741789 2147483579 t101 _ A4.out).mono ?_);rintro e w' ⟨rfl,⟨nd,rfl⟩⟩))
   go_ret
   exact ⟨by first | rfl | (simp;done) | (simp [*];done),by repeat (first | exact Drawn0.refl _ | apply Drawn0.step)⟩
  ·rw [if_neg c3] at H
   have c3b0 : decide (a0 < 2147483579) = false := decide_eq_false c3
   clear c3
   obtain rfl := Option.some.inj H
   go_enter Try.func41,Try.ntmps41
   go_wp2
   go_ret
   exact ⟨by first | rfl | (simp;done) | (simp [*];done),by repeat (first | exact Drawn0.refl _ | apply Drawn0.step)⟩
 ·rw [if_neg c2] at H
  have c2b0 : decide (2 ≤ a0) = false := decide_eq_false c2
  clear c2
  obtain rfl := Option.some.inj H
  go_enter Try.func41,Try.ntmps41
  go_wp2
  go_ret
  exact ⟨by first | rfl | (simp;done) | (simp [*];done),by repeat (first | exact Drawn0.refl _ | apply Drawn0.step)⟩
def kx.l0 : Nat → List (S53) → List (S53) → Int → Int → Option (Bool)
 | 0,_,_,_,_ => none
 | k + 1,x0,x8,x9,x10 => if x10 < x9 then (if 0 ≤ x10 then (if x10 < (x8.length : Int) then ((vk.f k ((kw x8 x10).f0)).bind fun t103 => (if t103 = true then (if x10 > 0 then (if 0 ≤ (wrap64 (x10 - 1)) then (if (wrap64 (x10 - 1)) < (x0.length : Int) then (if ((Op.bytesLess (((kw x0 (wrap64 (x10 - 1))).f0).toList) (((kw x8 x10).f0).toList)) = true) then ((vv.f k ((kw x8 x10).f1)).bind fun t105 => (if t105 = true then (if ((kw x8 x10).f2) < 0 then (some false) else (if ((kw x8 x10).f2) > ((kw x8 x10).f3) then (some false) else (if ((kw x8 x10).f3) > 100000000000 then (some false) else (kx.l0 k x0 x8 x9 (wrap64 (x10 + 1)))))) else (some false))) else (some false)) else (none)) else (none)) else ((vv.f k ((kw x8 x10).f1)).bind fun t106 => (if t106 = true then (if ((kw x8 x10).f2) < 0 then (some false) else (if ((kw x8 x10).f2) > ((kw x8 x10).f3) then (some false) else (if ((kw x8 x10).f3) > 100000000000 then (some false) else (kx.l0 k x0 x8 x9 (wrap64 (x10 + 1)))))) else (some false)))) else (some false))) else (none)) else (none)) else (some true)
def kx.f (k : Nat) (l0 : List (S53)) : Option (Bool) := if (l0.length : Int) > 10 then (some false) else (kx.l0 k l0 l0 (l0.length : Int) 0)
set_option maxHeartbeats 8000000 in
set_option maxRecDepth 100000 in
theorem kx.calls (k : Nat) (A0 : Option Addr) (c0 : Nat) (l0 : List (S53)) (r : Bool) (w : World) (hr0 : Kd.C k53 w A0 l0.length l0) (hc0 : l0.length ≤ c0) (h : kx.f k l0 = some r) :
  Calls Try.prog 16 #[.slice A0 l0.length c0] w fun e w' => e = .returned (.bool r) ∧ Below w.heap.size w w' := by
 have hu53 := Try.underlying53
 have HR0 := qq.mk hr0
 have HC0 := qq.mk hc0
 clear hr0 hc0
 have HB := qq.mk (Below.refl w.heap.size w)
 have H : (if (l0.length : Int) > 10 then (some false) else (kx.l0 k l0 l0 (l0.length : Int) 0)) = some r := h
 clear h
 by_cases c2 : (l0.length : Int) > 10
 ·rw [if_pos c2] at H
  have c2b0 : decide (10 < (l0.length : Int)) = true := decide_eq_true c2
  have c2b1 : decide (10 < l0.length) = true := decide_eq_true (by omega)
  clear c2
  obtain rfl := Option.some.inj H
  go_enter Try.func16,Try.ntmps16
  go_wp2
  go_ret
  exact ⟨by first | rfl | (simp [*,jk,jj] <;> rfl),by repeat (first | (with_reducible first | exact HB.out | apply qj | apply qz | apply qk) | exact HB.out)⟩
 ·rw [if_neg c2] at H
  have c2b0 : decide (10 < (l0.length : Int)) = false := decide_eq_false c2
  have c2b1 : decide (10 < l0.length) = false := decide_eq_false (by omega)
  clear c2
  have H' := qq.mk H
  clear H
  go_enter Try.func16,Try.ntmps16
  go_wp2
  go_loopg [10] k (fun kq v10 w' => ∃ (x10_1 : Int),v10 = .int .i64 x10_1 ∧ qq (kx.l0 kq l0 l0 (l0.length : Int) x10_1 = some r) ∧ qq (kq ≤ k) ∧ qq (Below w.heap.size w w'))
  case atStart => exact ⟨(0),(by first | rfl | (simp;done) | (simp [*];done)),H',⟨Nat.le_refl _⟩,⟨by repeat (first | (with_reducible first | exact HB.out | apply qj | apply qz | apply qk) | exact HB.out)⟩⟩
  case round =>
   clear H'
   try clear c1
   try clear c2
   try clear c2b0
   try clear c2b1
   try clear p2
   obtain ⟨x10_1,rfl,HA,HK1,HB⟩ := hrel
   cases gk with
   | zero => exact absurd HA.out (by simp [kx.l0])
   | succ k1 =>
    have H := HA.out
    clear HA
    simp only [kx.l0] at H
    by_cases c3 : x10_1 < (l0.length : Int)
    ·rw [if_pos c3] at H
     have c3b0 : decide (x10_1 < (l0.length : Int)) = true := decide_eq_true c3
     clear c3
     by_cases c4 : 0 ≤ x10_1
     ·rw [if_pos c4] at H
      have c4b0 : decide (0 ≤ x10_1) = true := decide_eq_true c4
      clear c4
      by_cases c5 : x10_1 < (l0.length : Int)
      ·rw [if_pos c5] at H
       have c5b0 : decide (x10_1 < (l0.length : Int)) = true := decide_eq_true c5
       clear c5
       replace H := Option.bind_eq_some_iff.mp H
       obtain ⟨t103,A60,H⟩ := H
       replace H : (if t103 = true then (if x10_1 > 0 then (if 0 ≤ (wrap64 (x10_1 - 1)) then (if (wrap64 (x10_1 - 1)) < (l0.length : Int) then (if ((Op.bytesLess (((kw l0 (wrap64 (x10_1 - 1))).f0).toList) (((kw l0 x10_1).f0).toList)) = true) then ((vv.f k1 ((kw l0 x10_1).f1)).bind fun t105 => (if t105 = true then (if ((kw l0 x10_1).f2) < 0 then (some false) else (if ((kw l0 x10_1).f2) > ((kw l0 x10_1).f3) then (some false) else (if ((kw l0 x10_1).f3) > 100000000000 then (some false) else (kx.l0 k1 l0 l0 (l0.length : Int) (wrap64 (x10_1 + 1)))))) else (some false))) else (some false)) else (none)) else (none)) else ((vv.f k1 ((kw l0 x10_1).f1)).bind fun t106 => (if t106 = true then (if ((kw l0 x10_1).f2) < 0 then (some false) else (if ((kw l0 x10_1).f2) > ((kw l0 x10_1).f3) then (some false) else (if ((kw l0 x10_1).f3) > 100000000000 then (some false) else (kx.l0 k1 l0 l0 (l0.length : Int) (wrap64 (x10_1 + 1)))))) else (some false)))) else (some false)) = some r := H
       have A6 := qq.mk A60
       clear A60
       by_cases c7 : t103 = true
       ·subst c7
        have H1 : (if x10_1 > 0 then (if 0 ≤ (wrap64 (x10_1 - 1)) then (if (wrap64 (x10_1 - 1)) < (l0.length : Int) then (if ((Op.bytesLess (((kw l0 (wrap64 (x10_1 - 1))).f0).toList) (((kw l0 x10_1).f0).toList)) = true) then ((vv.f k1 ((kw l0 x10_1).f1)).bind fun t105 => (if t105 = true then (if ((kw l0 x10_1).f2) < 0 then (some false) else (if ((kw l0 x10_1).f2) > ((kw l0 x10_1).f3) then (some false) else (if ((kw l0 x10_1).f3) > 100000000000 then (some false) else (kx.l0 k1 l0 l0 (l0.length : Int) (wrap64 (x10_1 + 1)))))) else (some false))) else (some false)) else (none)) else (none)) else ((vv.f k1 ((kw l0 x10_1).f1)).bind fun t106 => (if t106 = true then (if ((kw l0 x10_1).f2) < 0 then (some false) else (if ((kw l0 x10_1).f2) > ((kw l0 x10_1).f3) then (some false) else (if ((kw l0 x10_1).f3) > 100000000000 then (some false) else (kx.l0 k1 l0 l0 (l0.length : Int) (wrap64 (x10_1 + 1)))))) else (some false)))) = some r := by rw [if_pos rfl] at H;exact H
        clear H
        have H := H1
        clear H1
        by_cases c8 : x10_1 > 0
        ·rw [if_pos c8] at H
         have c8b0 : decide (0 < x10_1) = true := decide_eq_true c8
         clear c8
         obtain ⟨ji9,hji9⟩ : ∃ j_ : Int,(wrap64 (x10_1 - 1)) = j_ := ⟨_,rfl⟩
         replace H : (if 0 ≤ (ji9) then (if (ji9) < (l0.length : Int) then (if ((Op.bytesLess (((kw l0 (ji9)).f0).toList) (((kw l0 x10_1).f0).toList)) = true) then ((vv.f k1 ((kw l0 x10_1).f1)).bind fun t105 => (if t105 = true then (if ((kw l0 x10_1).f2) < 0 then (some false) else (if ((kw l0 x10_1).f2) > ((kw l0 x10_1).f3) then (some false) else (if ((kw l0 x10_1).f3) > 100000000000 then (some false) else (kx.l0 k1 l0 l0 (l0.length : Int) (wrap64 (x10_1 + 1)))))) else (some false))) else (some false)) else (none)) else (none)) = some r := by first | (rw [hji9] at H;exact H) | (simp only [hji9] at H ⊢;exact H)
         (try rw [hji9] at A6)
         have hji9w : (IntKind.i64.wrap (x10_1 - 1)) = ji9 := (i64_w _).trans hji9
         by_cases c10 : 0 ≤ (ji9)
         ·rw [if_pos c10] at H
          have c10b0 : decide (0 ≤ (ji9)) = true := decide_eq_true c10
          clear c10
          by_cases c11 : (ji9) < (l0.length : Int)
          ·rw [if_pos c11] at H
           have c11b0 : decide ((ji9) < (l0.length : Int)) = true := decide_eq_true c11
           clear c11
           by_cases c12 : ((Op.bytesLess (((kw l0 (ji9)).f0).toList) (((kw l0 x10_1).f0).toList)) = true)
           ·rw [if_pos c12] at H
            have c12b0 : (Op.bytesLess (((kw l0 (ji9)).f0).toList) (((kw l0 x10_1).f0).toList)) = true := c12
            clear c12
            replace H := Option.bind_eq_some_iff.mp H
            obtain ⟨t105,A130,H⟩ := H
            replace H : (if t105 = true then (if ((kw l0 x10_1).f2) < 0 then (some false) else (if ((kw l0 x10_1).f2) > ((kw l0 x10_1).f3) then (some false) else (if ((kw l0 x10_1).f3) > 100000000000 then (some false) else (kx.l0 k1 l0 l0 (l0.length : Int) (wrap64 (x10_1 + 1)))))) else (some false)) = some r := H
            have A13 := qq.mk A130
            clear A130
            by_cases c14 : t105 = true
            ·subst c14
             have H1 : (if ((kw l0 x10_1).f2) < 0 then (some false) else (if ((kw l0 x10_1).f2) > ((kw l0 x10_1).f3) then (some false) else (if ((kw l0 x10_1).f3) > 100000000000 then (some false) else (kx.l0 k1 l0 l0 (l0.length : Int) (wrap64 (x10_1 + 1)))))) = some r := by rw [if_pos rfl] at H;exact H
             clear H
             have H := H1
             clear H1
             by_cases c15 : ((kw l0 x10_1).f2) < 0
             ·rw [if_pos c15] at H
              have c15b0 : decide (((kw l0 x10_1).f2) < 0) = true := decide_eq_true c15
              clear c15
              obtain rfl := Option.some.inj H
              have p101 : 0 ≤ (x10_1 : Int) := of_decide_eq_true (by assumption)
              have q101 : x10_1 < (l0.length : Int) := of_decide_eq_true (by assumption)
              obtain ⟨ad101,e101,hx101_0,hx101_1,hx101_2,hx101_3⟩ := at_T53 HR0.out x10_1 p101 q101
              cases e101
              replace hx101_0 := (HB.out.cell (World.block_lt_of_cell? w _ hx101_0)).trans hx101_0
              replace hx101_1 := (HB.out.cell (World.block_lt_of_cell? w _ hx101_1)).trans hx101_1
              replace hx101_2 := (HB.out.cell (World.block_lt_of_cell? w _ hx101_2)).trans hx101_2
              replace hx101_3 := (HB.out.cell (World.block_lt_of_cell? w _ hx101_3)).trans hx101_3
              replace p101 := eq_true p101
              replace q101 := eq_true q101
              try go_wp2_with (first | ((with_reducible refine gate_dst (N := 4) rfl ?_);refine box_event ?hg (N := 4) ?hd (cs := #[.string (⟨#[]⟩ : ByteArray),.int .i64 0,.int .i64 0,.int .i64 0]) (t := 53) ?hr ?_;(case hd => rfl);(case hg => rfl);(case hr => first | (go_simp;done) | (go_simp;rfl));intro gb102 hg w16 hbox hb;have n0_ := qq.mk (zv (by repeat (first | (with_reducible first | exact HB.out | apply qj | apply qz | apply qk) | exact HB.out)) hb);have n1_ := qq.mk (hbox);have n2_ := qq.mk ((by rw [hg];exact (zw (by repeat (first | (with_reducible first | exact HB.out | apply qj | apply qz | apply qk) | exact HB.out))) : w.heap.size ≤ gb102));have n3_ := qq.mk ((by rw [hg];exact (zw (by repeat (first | (with_reducible first | exact HB.out | apply qj | apply qz | apply qk) | exact HB.out))) : w.heap.size ≤ gb102));clear HB;have HB := n0_;have BK102 := n1_;have GW102 := n2_;have GE102 := n3_;clear n0_ n1_ n2_ n3_;clear hb hbox hg;have hcz17_0 : w16.cell? ⟨gb102,0,none⟩ = some (.string (⟨#[]⟩ : ByteArray)) := (qw BK102.out 0).trans rfl;have hcz17_1 : w16.cell? ⟨gb102,1,none⟩ = some (.int .i64 0) := (qw BK102.out 1).trans rfl;have hcz17_2 : w16.cell? ⟨gb102,2,none⟩ = some (.int .i64 0) := (qw BK102.out 2).trans rfl;have hcz17_3 : w16.cell? ⟨gb102,3,none⟩ = some (.int .i64 0) := (qw BK102.out 3).trans rfl;have hfz17_0 := qv BK102.out 0;have hfz17_1 := qv BK102.out 1;have hfz17_2 := qv BK102.out 2;have hfz17_3 := qv BK102.out 3))
              have n0_ : qq (((((w16.setCell ⟨gb102,0,none⟩ (.string ((kw l0 x10_1).f0))).setCell ⟨gb102,1,none⟩ (.int .i64 ((kw l0 x10_1).f1))).setCell ⟨gb102,2,none⟩ (.int .i64 ((kw l0 x10_1).f2))).setCell ⟨gb102,3,none⟩ (.int .i64 ((kw l0 x10_1).f3))).heap[gb102]? = some (.cells #[.string ((kw l0 x10_1).f0),.int .i64 ((kw l0 x10_1).f1),.int .i64 ((kw l0 x10_1).f2),.int .i64 ((kw l0 x10_1).f3)] 53 (0,0))) := ⟨by (with_reducible repeat (first | refine zz ?_ _ | refine zj ?_ | refine zq ?_ _));refine blk_put (cs := #[.string ((kw l0 x10_1).f0),.int .i64 ((kw l0 x10_1).f1),.int .i64 ((kw l0 x10_1).f2),.int .i64 0]) ?_ 3 _ rfl;(with_reducible repeat (first | refine zz ?_ _ | refine zj ?_ | refine zq ?_ _));refine blk_put (cs := #[.string ((kw l0 x10_1).f0),.int .i64 ((kw l0 x10_1).f1),.int .i64 0,.int .i64 0]) ?_ 2 _ rfl;(with_reducible repeat (first | refine zz ?_ _ | refine zj ?_ | refine zq ?_ _));refine blk_put (cs := #[.string ((kw l0 x10_1).f0),.int .i64 0,.int .i64 0,.int .i64 0]) ?_ 1 _ rfl;(with_reducible repeat (first | refine zz ?_ _ | refine zj ?_ | refine zq ?_ _));refine blk_put (cs := #[.string (⟨#[]⟩ : ByteArray),.int .i64 0,.int .i64 0,.int .i64 0]) ?_ 0 _ rfl;(with_reducible repeat (first | refine zz ?_ _ | refine zj ?_ | refine zq ?_ _));exact BK102.out⟩
              have n1_ : qq (Below w.heap.size w ((((w16.setCell ⟨gb102,0,none⟩ (.string ((kw l0 x10_1).f0))).setCell ⟨gb102,1,none⟩ (.int .i64 ((kw l0 x10_1).f1))).setCell ⟨gb102,2,none⟩ (.int .i64 ((kw l0 x10_1).f2))).setCell ⟨gb102,3,none⟩ (.int .i64 ((kw l0 x10_1).f3)))) := ⟨by repeat (first | (with_reducible first | exact HB.out | apply qj | apply qz | apply qk | refine qx ?_ GE102.out) | exact HB.out)⟩
              (try clear BK102)
              (try clear HB)
              generalize ((((w16.setCell ⟨gb102,0,none⟩ (.string ((kw l0 x10_1).f0))).setCell ⟨gb102,1,none⟩ (.int .i64 ((kw l0 x10_1).f1))).setCell ⟨gb102,2,none⟩ (.int .i64 ((kw l0 x10_1).f2))).setCell ⟨gb102,3,none⟩ (.int .i64 ((kw l0 x10_1).f3))) = w18 at n0_ n1_ ⊢
              have BK102 := n0_
              have HB := n1_
              clear n0_ n1_
              have p104 : 0 ≤ ((ji9) : Int) := of_decide_eq_true (by assumption)
              have q104 : (ji9) < (l0.length : Int) := of_decide_eq_true (by assumption)
              obtain ⟨ad104,e104,hx104_0,hx104_1,hx104_2,hx104_3⟩ := at_T53 HR0.out (ji9) p104 q104
              have hw104_3 := hx104_3
              have hw104_2 := hx104_2
              have hw104_1 := hx104_1
              have hw104_0 := hx104_0
              obtain rfl : ad101 = ad104 := (by injection e104)
              replace hx104_0 := (HB.out.cell (World.block_lt_of_cell? w _ hx104_0)).trans hx104_0
              replace hx104_1 := (HB.out.cell (World.block_lt_of_cell? w _ hx104_1)).trans hx104_1
              replace hx104_2 := (HB.out.cell (World.block_lt_of_cell? w _ hx104_2)).trans hx104_2
              replace hx104_3 := (HB.out.cell (World.block_lt_of_cell? w _ hx104_3)).trans hx104_3
              replace p104 := eq_true p104
              replace q104 := eq_true q104
              have hS_ := (show (fun w' => w'.cell? ⟨gb102,0,none⟩ = some (.string ((kw l0 x10_1).f0)) ∧ w'.cell? ⟨gb102,1,none⟩ = some (.int .i64 ((kw l0 x10_1).f1)) ∧ w'.cell? ⟨gb102,2,none⟩ = some (.int .i64 ((kw l0 x10_1).f2)) ∧ w'.cell? ⟨gb102,3,none⟩ = some (.int .i64 ((kw l0 x10_1).f3)) ∧ w'.cell? (ad101.add (((ji9)).toNat * 4)) = some (.string ((kw l0 (ji9)).f0)) ∧ w'.cell? ⟨(ad101.add (((ji9)).toNat * 4)).block,(ad101.add (((ji9)).toNat * 4)).off + 1,none⟩ = some (.int .i64 ((kw l0 (ji9)).f1)) ∧ w'.cell? ⟨(ad101.add (((ji9)).toNat * 4)).block,(ad101.add (((ji9)).toNat * 4)).off + 2,none⟩ = some (.int .i64 ((kw l0 (ji9)).f2)) ∧ w'.cell? ⟨(ad101.add (((ji9)).toNat * 4)).block,(ad101.add (((ji9)).toNat * 4)).off + 3,none⟩ = some (.int .i64 ((kw l0 (ji9)).f3))) (w18) from ⟨(qw BK102.out 0).trans rfl,(qw BK102.out 1).trans rfl,(qw BK102.out 2).trans rfl,(qw BK102.out 3).trans rfl,((HB.out.cell (World.block_lt_of_cell? w _ hw104_0)).trans hw104_0),((HB.out.cell (World.block_lt_of_cell? w _ hw104_1)).trans hw104_1),((HB.out.cell (World.block_lt_of_cell? w _ hw104_2)).trans hw104_2),((HB.out.cell (World.block_lt_of_cell? w _ hw104_3)).trans hw104_3)⟩)
              obtain ⟨hS0_,hS1_,hS2_,hS3_,hS4_,hS5_,hS6_,hS7_⟩ := hS_
              go_quiet ((first | (go_at_call 40;exact Calls.quiet_of ((vk.calls k1 ((kw l0 x10_1).f0) true _ A6.out).mono fun _ _ h => ⟨h.1,h.2.out⟩)) | (go_at_call 41;exact Calls.quiet_of ((vv.calls k1 ((kw l0 x10_1).f1) true _ A13.out).mono fun _ _ h => ⟨h.1,h.2.out⟩))))
              clear hS0_ hS1_ hS2_ hS3_ hS4_ hS5_ hS6_ hS7_
              have n0_ := qq.mk (zz BK102.out nq)
              have n1_ := qq.mk (qz HB.out nq)
              clear BK102
              clear HB
              have BK102 := n0_
              have HB := n1_
              clear n0_ n1_
              replace hx104_0 : (World.drewN w18 nq).cell? _ = _ := hx104_0
              replace hx104_1 : (World.drewN w18 nq).cell? _ = _ := hx104_1
              replace hx104_2 : (World.drewN w18 nq).cell? _ = _ := hx104_2
              replace hx104_3 : (World.drewN w18 nq).cell? _ = _ := hx104_3
              generalize World.drewN w18 nq = w19 at BK102 HB hx104_0 hx104_1 hx104_2 hx104_3 ⊢
              try go_wp2
              go_ret
              exact ⟨by first | rfl | (simp [jk,jj] <;> rfl) | (simp only [← hji9];first | rfl | (simp [jk,jj] <;> rfl)) | (simp [*,jk,jj] <;> rfl),by repeat (first | (with_reducible first | exact HB.out | apply qj | apply qz | apply qk | refine qx ?_ GE102.out) | exact HB.out)⟩
             ·rw [if_neg c15] at H
              have c15b0 : decide (((kw l0 x10_1).f2) < 0) = false := decide_eq_false c15
              clear c15
              by_cases c20 : ((kw l0 x10_1).f2) > ((kw l0 x10_1).f3)
              ·rw [if_pos c20] at H
               have c20b0 : decide (((kw l0 x10_1).f3) < ((kw l0 x10_1).f2)) = true := decide_eq_true c20
               clear c20
               obtain rfl := Option.some.inj H
               have p101 : 0 ≤ (x10_1 : Int) := of_decide_eq_true (by assumption)
               have q101 : x10_1 < (l0.length : Int) := of_decide_eq_true (by assumption)
               obtain ⟨ad101,e101,hx101_0,hx101_1,hx101_2,hx101_3⟩ := at_T53 HR0.out x10_1 p101 q101
               cases e101
               replace hx101_0 := (HB.out.cell (World.block_lt_of_cell? w _ hx101_0)).trans hx101_0
               replace hx101_1 := (HB.out.cell (World.block_lt_of_cell? w _ hx101_1)).trans hx101_1
               replace hx101_2 := (HB.out.cell (World.block_lt_of_cell? w _ hx101_2)).trans hx101_2
               replace hx101_3 := (HB.out.cell (World.block_lt_of_cell? w _ hx101_3)).trans hx101_3
               replace p101 := eq_true p101
               replace q101 := eq_true q101
               try go_wp2_with (first | ((with_reducible refine gate_dst (N := 4) rfl ?_);refine box_event ?hg (N := 4) ?hd (cs := #[.string (⟨#[]⟩ : ByteArray),.int .i64 0,.int .i64 0,.int .i64 0]) (t := 53) ?hr ?_;(case hd => rfl);(case hg => rfl);(case hr => first | (go_simp;done) | (go_simp;rfl));intro gb102 hg w21 hbox hb;have n0_ := qq.mk (zv (by repeat (first | (with_reducible first | exact HB.out | apply qj | apply qz | apply qk) | exact HB.out)) hb);have n1_ := qq.mk (hbox);have n2_ := qq.mk ((by rw [hg];exact (zw (by repeat (first | (with_reducible first | exact HB.out | apply qj | apply qz | apply qk) | exact HB.out))) : w.heap.size ≤ gb102));have n3_ := qq.mk ((by rw [hg];exact (zw (by repeat (first | (with_reducible first | exact HB.out | apply qj | apply qz | apply qk) | exact HB.out))) : w.heap.size ≤ gb102));clear HB;have HB := n0_;have BK102 := n1_;have GW102 := n2_;have GE102 := n3_;clear n0_ n1_ n2_ n3_;clear hb hbox hg;have hcz22_0 : w21.cell? ⟨gb102,0,none⟩ = some (.string (⟨#[]⟩ : ByteArray)) := (qw BK102.out 0).trans rfl;have hcz22_1 : w21.cell? ⟨gb102,1,none⟩ = some (.int .i64 0) := (qw BK102.out 1).trans rfl;have hcz22_2 : w21.cell? ⟨gb102,2,none⟩ = some (.int .i64 0) := (qw BK102.out 2).trans rfl;have hcz22_3 : w21.cell? ⟨gb102,3,none⟩ = some (.int .i64 0) := (qw BK102.out 3).trans rfl;have hfz22_0 := qv BK102.out 0;have hfz22_1 := qv BK102.out 1;have hfz22_2 := qv BK102.out 2;have hfz22_3 := qv BK102.out 3))
               have n0_ : qq (((((w21.setCell ⟨gb102,0,none⟩ (.string ((kw l0 x10_1).f0))).setCell ⟨gb102,1,none⟩ (.int .i64 ((kw l0 x10_1).f1))).setCell ⟨gb102,2,none⟩ (.int .i64 ((kw l0 x10_1).f2))).setCell ⟨gb102,3,none⟩ (.int .i64 ((kw l0 x10_1).f3))).heap[gb102]? = some (.cells #[.string ((kw l0 x10_1).f0),.int .i64 ((kw l0 x10_1).f1),.int .i64 ((kw l0 x10_1).f2),.int .i64 ((kw l0 x10_1).f3)] 53 (0,0))) := ⟨by (with_reducible repeat (first | refine zz ?_ _ | refine zj ?_ | refine zq ?_ _));refine blk_put (cs := #[.string ((kw l0 x10_1).f0),.int .i64 ((kw l0 x10_1).f1),.int .i64 ((kw l0 x10_1).f2),.int .i64 0]) ?_ 3 _ rfl;(with_reducible repeat (first | refine zz ?_ _ | refine zj ?_ | refine zq ?_ _));refine blk_put (cs := #[.string ((kw l0 x10_1).f0),.int .i64 ((kw l0 x10_1).f1),.int .i64 0,.int .i64 0]) ?_ 2 _ rfl;(with_reducible repeat (first | refine zz ?_ _ | refine zj ?_ | refine zq ?_ _));refine blk_put (cs := #[.string ((kw l0 x10_1).f0),.int .i64 0,.int .i64 0,.int .i64 0]) ?_ 1 _ rfl;(with_reducible repeat (first | refine zz ?_ _ | refine zj ?_ | refine zq ?_ _));refine blk_put (cs := #[.string (⟨#[]⟩ : ByteArray),.int .i64 0,.int .i64 0,.int .i64 0]) ?_ 0 _ rfl;(with_reducible repeat (first | refine zz ?_ _ | refine zj ?_ | refine zq ?_ _));exact BK102.out⟩
               have n1_ : qq (Below w.heap.size w ((((w21.setCell ⟨gb102,0,none⟩ (.string ((kw l0 x10_1).f0))).setCell ⟨gb102,1,none⟩ (.int .i64 ((kw l0 x10_1).f1))).setCell ⟨gb102,2,none⟩ (.int .i64 ((kw l0 x10_1).f2))).setCell ⟨gb102,3,none⟩ (.int .i64 ((kw l0 x10_1).f3)))) := ⟨by repeat (first | (with_reducible first | exact HB.out | apply qj | apply qz | apply qk | refine qx ?_ GE102.out) | exact HB.out)⟩
               (try clear BK102)
               (try clear HB)
               generalize ((((w21.setCell ⟨gb102,0,none⟩ (.string ((kw l0 x10_1).f0))).setCell ⟨gb102,1,none⟩ (.int .i64 ((kw l0 x10_1).f1))).setCell ⟨gb102,2,none⟩ (.int .i64 ((kw l0 x10_1).f2))).setCell ⟨gb102,3,none⟩ (.int .i64 ((kw l0 x10_1).f3))) = w23 at n0_ n1_ ⊢
               have BK102 := n0_
               have HB := n1_
               clear n0_ n1_
               have p104 : 0 ≤ ((ji9) : Int) := of_decide_eq_true (by assumption)
               have q104 : (ji9) < (l0.length : Int) := of_decide_eq_true (by assumption)
               obtain ⟨ad104,e104,hx104_0,hx104_1,hx104_2,hx104_3⟩ := at_T53 HR0.out (ji9) p104 q104
               have hw104_3 := hx104_3
               have hw104_2 := hx104_2
               have hw104_1 := hx104_1
               have hw104_0 := hx104_0
               obtain rfl : ad101 = ad104 := (by injection e104)
               replace hx104_0 := (HB.out.cell (World.block_lt_of_cell? w _ hx104_0)).trans hx104_0
               replace hx104_1 := (HB.out.cell (World.block_lt_of_cell? w _ hx104_1)).trans hx104_1
               replace hx104_2 := (HB.out.cell (World.block_lt_of_cell? w _ hx104_2)).trans hx104_2
               replace hx104_3 := (HB.out.cell (World.block_lt_of_cell? w _ hx104_3)).trans hx104_3
               replace p104 := eq_true p104
               replace q104 := eq_true q104
               have hS_ := (show (fun w' => w'.cell? ⟨gb102,0,none⟩ = some (.string ((kw l0 x10_1).f0)) ∧ w'.cell? ⟨gb102,1,none⟩ = some (.int .i64 ((kw l0 x10_1).f1)) ∧ w'.cell? ⟨gb102,2,none⟩ = some (.int .i64 ((kw l0 x10_1).f2)) ∧ w'.cell? ⟨gb102,3,none⟩ = some (.int .i64 ((kw l0 x10_1).f3)) ∧ w'.cell? (ad101.add (((ji9)).toNat * 4)) = some (.string ((kw l0 (ji9)).f0)) ∧ w'.cell? ⟨(ad101.add (((ji9)).toNat * 4)).block,(ad101.add (((ji9)).toNat * 4)).off + 1,none⟩ = some (.int .i64 ((kw l0 (ji9)).f1)) ∧ w'.cell? ⟨(ad101.add (((ji9)).toNat * 4)).block,(ad101.add (((ji9)).toNat * 4)).off + 2,none⟩ = some (.int .i64 ((kw l0 (ji9)).f2)) ∧ w'.cell? ⟨(ad101.add (((ji9)).toNat * 4)).block,(ad101.add (((ji9)).toNat * 4)).off + 3,none⟩ = some (.int .i64 ((kw l0 (ji9)).f3))) (w23) from ⟨(qw BK102.out 0).trans rfl,(qw BK102.out 1).trans rfl,(qw BK102.out 2).trans rfl,(qw BK102.out 3).trans rfl,((HB.out.cell (World.block_lt_of_cell? w _ hw104_0)).trans hw104_0),((HB.out.cell (World.block_lt_of_cell? w _ hw104_1)).trans hw104_1),((HB.out.cell (World.block_lt_of_cell? w _ hw104_2)).trans hw104_2),((HB.out.cell (World.block_lt_of_cell? w _ hw104_3)).trans hw104_3)⟩)
               obtain ⟨hS0_,hS1_,hS2_,hS3_,hS4_,hS5_,hS6_,hS7_⟩ := hS_
               go_quiet ((first | (go_at_call 40;exact Calls.quiet_of ((vk.calls k1 ((kw l0 x10_1).f0) true _ A6.out).mono fun _ _ h => ⟨h.1,h.2.out⟩)) | (go_at_call 41;exact Calls.quiet_of ((vv.calls k1 ((kw l0 x10_1).f1) true _ A13.out).mono fun _ _ h => ⟨h.1,h.2.out⟩))))
               clear hS0_ hS1_ hS2_ hS3_ hS4_ hS5_ hS6_ hS7_
               have n0_ := qq.mk (zz BK102.out nq)
               have n1_ := qq.mk (qz HB.out nq)
               clear BK102
               clear HB
               have BK102 := n0_
               have HB := n1_
               clear n0_ n1_
               replace hx104_0 : (World.drewN w23 nq).cell? _ = _ := hx104_0
               replace hx104_1 : (World.drewN w23 nq).cell? _ = _ := hx104_1
               replace hx104_2 : (World.drewN w23 nq).cell? _ = _ := hx104_2
               replace hx104_3 : (World.drewN w23 nq).cell? _ = _ := hx104_3
               generalize World.drewN w23 nq = w24 at BK102 HB hx104_0 hx104_1 hx104_2 hx104_3 ⊢
               try go_wp2
               go_ret
               exact ⟨by first | rfl | (simp [jk,jj] <;> rfl) | (simp only [← hji9];first | rfl | (simp [jk,jj] <;> rfl)) | (simp [*,jk,jj] <;> rfl),by repeat (first | (with_reducible first | exact HB.out | apply qj | apply qz | apply qk | refine qx ?_ GE102.out) | exact HB.out)⟩
              ·rw [if_neg c20] at H
               have c20b0 : decide (((kw l0 x10_1).f3) < ((kw l0 x10_1).f2)) = false := decide_eq_false c20
               clear c20
               by_cases c25 : ((kw l0 x10_1).f3) > 100000000000
               ·rw [if_pos c25] at H
                have c25b0 : decide (100000000000 < ((kw l0 x10_1).f3)) = true := decide_eq_true c25
                clear c25
                obtain rfl := Option.some.inj H
                have p101 : 0 ≤ (x10_1 : Int) := of_decide_eq_true (by assumption)
                have q101 : x10_1 < (l0.length : Int) := of_decide_eq_true (by assumption)
                obtain ⟨ad101,e101,hx101_0,hx101_1,hx101_2,hx101_3⟩ := at_T53 HR0.out x10_1 p101 q101
                cases e101
                replace hx101_0 := (HB.out.cell (World.block_lt_of_cell? w _ hx101_0)).trans hx101_0
                replace hx101_1 := (HB.out.cell (World.block_lt_of_cell? w _ hx101_1)).trans hx101_1
                replace hx101_2 := (HB.out.cell (World.block_lt_of_cell? w _ hx101_2)).trans hx101_2
                replace hx101_3 := (HB.out.cell (World.block_lt_of_cell? w _ hx101_3)).trans hx101_3
                replace p101 := eq_true p101
                replace q101 := eq_true q101
                try go_wp2_with (first | ((with_reducible refine gate_dst (N := 4) rfl ?_);refine box_event ?hg (N := 4) ?hd (cs := #[.string (⟨#[]⟩ : ByteArray),.int .i64 0,.int .i64 0,.int .i64 0]) (t := 53) ?hr ?_;(case hd => rfl);(case hg => rfl);(case hr => first | (go_simp;done) | (go_simp;rfl));intro gb102 hg w26 hbox hb;have n0_ := qq.mk (zv (by repeat (first | (with_reducible first | exact HB.out | apply qj | apply qz | apply qk) | exact HB.out)) hb);have n1_ := qq.mk (hbox);have n2_ := qq.mk ((by rw [hg];exact (zw (by repeat (first | (with_reducible first | exact HB.out | apply qj | apply qz | apply qk) | exact HB.out))) : w.heap.size ≤ gb102));have n3_ := qq.mk ((by rw [hg];exact (zw (by repeat (first | (with_reducible first | exact HB.out | apply qj | apply qz | apply qk) | exact HB.out))) : w.heap.size ≤ gb102));clear HB;have HB := n0_;have BK102 := n1_;have GW102 := n2_;have GE102 := n3_;clear n0_ n1_ n2_ n3_;clear hb hbox hg;have hcz27_0 : w26.cell? ⟨gb102,0,none⟩ = some (.string (⟨#[]⟩ : ByteArray)) := (qw BK102.out 0).trans rfl;have hcz27_1 : w26.cell? ⟨gb102,1,none⟩ = some (.int .i64 0) := (qw BK102.out 1).trans rfl;have hcz27_2 : w26.cell? ⟨gb102,2,none⟩ = some (.int .i64 0) := (qw BK102.out 2).trans rfl;have hcz27_3 : w26.cell? ⟨gb102,3,none⟩ = some (.int .i64 0) := (qw BK102.out 3).trans rfl;have hfz27_0 := qv BK102.out 0;have hfz27_1 := qv BK102.out 1;have hfz27_2 := qv BK102.out 2;have hfz27_3 := qv BK102.out 3))
                have n0_ : qq (((((w26.setCell ⟨gb102,0,none⟩ (.string ((kw l0 x10_1).f0))).setCell ⟨gb102,1,none⟩ (.int .i64 ((kw l0 x10_1).f1))).setCell ⟨gb102,2,none⟩ (.int .i64 ((kw l0 x10_1).f2))).setCell ⟨gb102,3,none⟩ (.int .i64 ((kw l0 x10_1).f3))).heap[gb102]? = some (.cells #[.string ((kw l0 x10_1).f0),.int .i64 ((kw l0 x10_1).f1),.int .i64 ((kw l0 x10_1).f2),.int .i64 ((kw l0 x10_1).f3)] 53 (0,0))) := ⟨by (with_reducible repeat (first | refine zz ?_ _ | refine zj ?_ | refine zq ?_ _));refine blk_put (cs := #[.string ((kw l0 x10_1).f0),.int .i64 ((kw l0 x10_1).f1),.int .i64 ((kw l0 x10_1).f2),.int .i64 0]) ?_ 3 _ rfl;(with_reducible repeat (first | refine zz ?_ _ | refine zj ?_ | refine zq ?_ _));refine blk_put (cs := #[.string ((kw l0 x10_1).f0),.int .i64 ((kw l0 x10_1).f1),.int .i64 0,.int .i64 0]) ?_ 2 _ rfl;(with_reducible repeat (first | refine zz ?_ _ | refine zj ?_ | refine zq ?_ _));refine blk_put (cs := #[.string ((kw l0 x10_1).f0),.int .i64 0,.int .i64 0,.int .i64 0]) ?_ 1 _ rfl;(with_reducible repeat (first | refine zz ?_ _ | refine zj ?_ | refine zq ?_ _));refine blk_put (cs := #[.string (⟨#[]⟩ : ByteArray),.int .i64 0,.int .i64 0,.int .i64 0]) ?_ 0 _ rfl;(with_reducible repeat (first | refine zz ?_ _ | refine zj ?_ | refine zq ?_ _));exact BK102.out⟩
                have n1_ : qq (Below w.heap.size w ((((w26.setCell ⟨gb102,0,none⟩ (.string ((kw l0 x10_1).f0))).setCell ⟨gb102,1,none⟩ (.int .i64 ((kw l0 x10_1).f1))).setCell ⟨gb102,2,none⟩ (.int .i64 ((kw l0 x10_1).f2))).setCell ⟨gb102,3,none⟩ (.int .i64 ((kw l0 x10_1).f3)))) := ⟨by repeat (first | (with_reducible first | exact HB.out | apply qj | apply qz | apply qk | refine qx ?_ GE102.out) | exact HB.out)⟩
                (try clear BK102)
                (try clear HB)
                generalize ((((w26.setCell ⟨gb102,0,none⟩ (.string ((kw l0 x10_1).f0))).setCell ⟨gb102,1,none⟩ (.int .i64 ((kw l0 x10_1).f1))).setCell ⟨gb102,2,none⟩ (.int .i64 ((kw l0 x10_1).f2))).setCell ⟨gb102,3,none⟩ (.int .i64 ((kw l0 x10_1).f3))) = w28 at n0_ n1_ ⊢
                have BK102 := n0_
                have HB := n1_
                clear n0_ n1_
                have p104 : 0 ≤ ((ji9) : Int) := of_decide_eq_true (by assumption)
                have q104 : (ji9) < (l0.length : Int) := of_decide_eq_true (by assumption)
                obtain ⟨ad104,e104,hx104_0,hx104_1,hx104_2,hx104_3⟩ := at_T53 HR0.out (ji9) p104 q104
                have hw104_3 := hx104_3
                have hw104_2 := hx104_2
                have hw104_1 := hx104_1
                have hw104_0 := hx104_0
                obtain rfl : ad101 = ad104 := (by injection e104)
                replace hx104_0 := (HB.out.cell (World.block_lt_of_cell? w _ hx104_0)).trans hx104_0
                replace hx104_1 := (HB.out.cell (World.block_lt_of_cell? w _ hx104_1)).trans hx104_1
                replace hx104_2 := (HB.out.cell (World.block_lt_of_cell? w _ hx104_2)).trans hx104_2
                replace hx104_3 := (HB.out.cell (World.block_lt_of_cell? w _ hx104_3)).trans hx104_3
                replace p104 := eq_true p104
                replace q104 := eq_true q104
                have hS_ := (show (fun w' => w'.cell? ⟨gb102,0,none⟩ = some (.string ((kw l0 x10_1).f0)) ∧ w'.cell? ⟨gb102,1,none⟩ = some (.int .i64 ((kw l0 x10_1).f1)) ∧ w'.cell? ⟨gb102,2,none⟩ = some (.int .i64 ((kw l0 x10_1).f2)) ∧ w'.cell? ⟨gb102,3,none⟩ = some (.int .i64 ((kw l0 x10_1).f3)) ∧ w'.cell? (ad101.add (((ji9)).toNat * 4)) = some (.string ((kw l0 (ji9)).f0)) ∧ w'.cell? ⟨(ad101.add (((ji9)).toNat * 4)).block,(ad101.add (((ji9)).toNat * 4)).off + 1,none⟩ = some (.int .i64 ((kw l0 (ji9)).f1)) ∧ w'.cell? ⟨(ad101.add (((ji9)).toNat * 4)).block,(ad101.add (((ji9)).toNat * 4)).off + 2,none⟩ = some (.int .i64 ((kw l0 (ji9)).f2)) ∧ w'.cell? ⟨(ad101.add (((ji9)).toNat * 4)).block,(ad101.add (((ji9)).toNat * 4)).off + 3,none⟩ = some (.int .i64 ((kw l0 (ji9)).f3))) (w28) from ⟨(qw BK102.out 0).trans rfl,(qw BK102.out 1).trans rfl,(qw BK102.out 2).trans rfl,(qw BK102.out 3).trans rfl,((HB.out.cell (World.block_lt_of_cell? w _ hw104_0)).trans hw104_0),((HB.out.cell (World.block_lt_of_cell? w _ hw104_1)).trans hw104_1),((HB.out.cell (World.block_lt_of_cell? w _ hw104_2)).trans hw104_2),((HB.out.cell (World.block_lt_of_cell? w _ hw104_3)).trans hw104_3)⟩)
                obtain ⟨hS0_,hS1_,hS2_,hS3_,hS4_,hS5_,hS6_,hS7_⟩ := hS_
                go_quiet ((first | (go_at_call 40;exact Calls.quiet_of ((vk.calls k1 ((kw l0 x10_1).f0) true _ A6.out).mono fun _ _ h => ⟨h.1,h.2.out⟩)) | (go_at_call 41;exact Calls.quiet_of ((vv.calls k1 ((kw l0 x10_1).f1) true _ A13.out).mono fun _ _ h => ⟨h.1,h.2.out⟩))))
                clear hS0_ hS1_ hS2_ hS3_ hS4_ hS5_ hS6_ hS7_
                have n0_ := qq.mk (zz BK102.out nq)
                have n1_ := qq.mk (qz HB.out nq)
                clear BK102
                clear HB
                have BK102 := n0_
                have HB := n1_
                clear n0_ n1_
                replace hx104_0 : (World.drewN w28 nq).cell? _ = _ := hx104_0
                replace hx104_1 : (World.drewN w28 nq).cell? _ = _ := hx104_1
                replace hx104_2 : (World.drewN w28 nq).cell? _ = _ := hx104_2
                replace hx104_3 : (World.drewN w28 nq).cell? _ = _ := hx104_3
                generalize World.drewN w28 nq = w29 at BK102 HB hx104_0 hx104_1 hx104_2 hx104_3 ⊢
                try go_wp2
                go_ret
                exact ⟨by first | rfl | (simp [jk,jj] <;> rfl) | (simp only [← hji9];first | rfl | (simp [jk,jj] <;> rfl)) | (simp [*,jk,jj] <;> rfl),by repeat (first | (with_reducible first | exact HB.out | apply qj | apply qz | apply qk | refine qx ?_ GE102.out) | exact HB.out)⟩
               ·rw [if_neg c25] at H
                have c25b0 : decide (100000000000 < ((kw l0 x10_1).f3)) = false := decide_eq_false c25
                clear c25
                have H' := qq.mk H
                clear H
                have p101 : 0 ≤ (x10_1 : Int) := of_decide_eq_true (by assumption)
                have q101 : x10_1 < (l0.length : Int) := of_decide_eq_true (by assumption)
                obtain ⟨ad101,e101,hx101_0,hx101_1,hx101_2,hx101_3⟩ := at_T53 HR0.out x10_1 p101 q101
                cases e101
                replace hx101_0 := (HB.out.cell (World.block_lt_of_cell? w _ hx101_0)).trans hx101_0
                replace hx101_1 := (HB.out.cell (World.block_lt_of_cell? w _ hx101_1)).trans hx101_1
                replace hx101_2 := (HB.out.cell (World.block_lt_of_cell? w _ hx101_2)).trans hx101_2
                replace hx101_3 := (HB.out.cell (World.block_lt_of_cell? w _ hx101_3)).trans hx101_3
                replace p101 := eq_true p101
                replace q101 := eq_true q101
                try go_wp2_with (first | ((with_reducible refine gate_dst (N := 4) rfl ?_);refine box_event ?hg (N := 4) ?hd (cs := #[.string (⟨#[]⟩ : ByteArray),.int .i64 0,.int .i64 0,.int .i64 0]) (t := 53) ?hr ?_;(case hd => rfl);(case hg => rfl);(case hr => first | (go_simp;done) | (go_simp;rfl));intro gb102 hg w30 hbox hb;have n0_ := qq.mk (zv (by repeat (first | (with_reducible first | exact HB.out | apply qj | apply qz | apply qk) | exact HB.out)) hb);have n1_ := qq.mk (hbox);have n2_ := qq.mk ((by rw [hg];exact (zw (by repeat (first | (with_reducible first | exact HB.out | apply qj | apply qz | apply qk) | exact HB.out))) : w.heap.size ≤ gb102));have n3_ := qq.mk ((by rw [hg];exact (zw (by repeat (first | (with_reducible first | exact HB.out | apply qj | apply qz | apply qk) | exact HB.out))) : w.heap.size ≤ gb102));clear HB;have HB := n0_;have BK102 := n1_;have GW102 := n2_;have GE102 := n3_;clear n0_ n1_ n2_ n3_;clear hb hbox hg;have hcz31_0 : w30.cell? ⟨gb102,0,none⟩ = some (.string (⟨#[]⟩ : ByteArray)) := (qw BK102.out 0).trans rfl;have hcz31_1 : w30.cell? ⟨gb102,1,none⟩ = some (.int .i64 0) := (qw BK102.out 1).trans rfl;have hcz31_2 : w30.cell? ⟨gb102,2,none⟩ = some (.int .i64 0) := (qw BK102.out 2).trans rfl;have hcz31_3 : w30.cell? ⟨gb102,3,none⟩ = some (.int .i64 0) := (qw BK102.out 3).trans rfl;have hfz31_0 := qv BK102.out 0;have hfz31_1 := qv BK102.out 1;have hfz31_2 := qv BK102.out 2;have hfz31_3 := qv BK102.out 3))
                have n0_ : qq (((((w30.setCell ⟨gb102,0,none⟩ (.string ((kw l0 x10_1).f0))).setCell ⟨gb102,1,none⟩ (.int .i64 ((kw l0 x10_1).f1))).setCell ⟨gb102,2,none⟩ (.int .i64 ((kw l0 x10_1).f2))).setCell ⟨gb102,3,none⟩ (.int .i64 ((kw l0 x10_1).f3))).heap[gb102]? = some (.cells #[.string ((kw l0 x10_1).f0),.int .i64 ((kw l0 x10_1).f1),.int .i64 ((kw l0 x10_1).f2),.int .i64 ((kw l0 x10_1).f3)] 53 (0,0))) := ⟨by (with_reducible repeat (first | refine zz ?_ _ | refine zj ?_ | refine zq ?_ _));refine blk_put (cs := #[.string ((kw l0 x10_1).f0),.int .i64 ((kw l0 x10_1).f1),.int .i64 ((kw l0 x10_1).f2),.int .i64 0]) ?_ 3 _ rfl;(with_reducible repeat (first | refine zz ?_ _ | refine zj ?_ | refine zq ?_ _));refine blk_put (cs := #[.string ((kw l0 x10_1).f0),.int .i64 ((kw l0 x10_1).f1),.int .i64 0,.int .i64 0]) ?_ 2 _ rfl;(with_reducible repeat (first | refine zz ?_ _ | refine zj ?_ | refine zq ?_ _));refine blk_put (cs := #[.string ((kw l0 x10_1).f0),.int .i64 0,.int .i64 0,.int .i64 0]) ?_ 1 _ rfl;(with_reducible repeat (first | refine zz ?_ _ | refine zj ?_ | refine zq ?_ _));refine blk_put (cs := #[.string (⟨#[]⟩ : ByteArray),.int .i64 0,.int .i64 0,.int .i64 0]) ?_ 0 _ rfl;(with_reducible repeat (first | refine zz ?_ _ | refine zj ?_ | refine zq ?_ _));exact BK102.out⟩
                have n1_ : qq (Below w.heap.size w ((((w30.setCell ⟨gb102,0,none⟩ (.string ((kw l0 x10_1).f0))).setCell ⟨gb102,1,none⟩ (.int .i64 ((kw l0 x10_1).f1))).setCell ⟨gb102,2,none⟩ (.int .i64 ((kw l0 x10_1).f2))).setCell ⟨gb102,3,none⟩ (.int .i64 ((kw l0 x10_1).f3)))) := ⟨by repeat (first | (with_reducible first | exact HB.out | apply qj | apply qz | apply qk | refine qx ?_ GE102.out) | exact HB.out)⟩
                (try clear BK102)
                (try clear HB)
                generalize ((((w30.setCell ⟨gb102,0,none⟩ (.string ((kw l0 x10_1).f0))).setCell ⟨gb102,1,none⟩ (.int .i64 ((kw l0 x10_1).f1))).setCell ⟨gb102,2,none⟩ (.int .i64 ((kw l0 x10_1).f2))).setCell ⟨gb102,3,none⟩ (.int .i64 ((kw l0 x10_1).f3))) = w32 at n0_ n1_ ⊢
                have BK102 := n0_
                have HB := n1_
                clear n0_ n1_
                have p104 : 0 ≤ ((ji9) : Int) := of_decide_eq_true (by assumption)
                have q104 : (ji9) < (l0.length : Int) := of_decide_eq_true (by assumption)
                obtain ⟨ad104,e104,hx104_0,hx104_1,hx104_2,hx104_3⟩ := at_T53 HR0.out (ji9) p104 q104
                have hw104_3 := hx104_3
                have hw104_2 := hx104_2
                have hw104_1 := hx104_1
                have hw104_0 := hx104_0
                obtain rfl : ad101 = ad104 := (by injection e104)
                replace hx104_0 := (HB.out.cell (World.block_lt_of_cell? w _ hx104_0)).trans hx104_0
                replace hx104_1 := (HB.out.cell (World.block_lt_of_cell? w _ hx104_1)).trans hx104_1
                replace hx104_2 := (HB.out.cell (World.block_lt_of_cell? w _ hx104_2)).trans hx104_2
                replace hx104_3 := (HB.out.cell (World.block_lt_of_cell? w _ hx104_3)).trans hx104_3
                replace p104 := eq_true p104
                replace q104 := eq_true q104
                have hS_ := (show (fun w' => w'.cell? ⟨gb102,0,none⟩ = some (.string ((kw l0 x10_1).f0)) ∧ w'.cell? ⟨gb102,1,none⟩ = some (.int .i64 ((kw l0 x10_1).f1)) ∧ w'.cell? ⟨gb102,2,none⟩ = some (.int .i64 ((kw l0 x10_1).f2)) ∧ w'.cell? ⟨gb102,3,none⟩ = some (.int .i64 ((kw l0 x10_1).f3)) ∧ w'.cell? (ad101.add (((ji9)).toNat * 4)) = some (.string ((kw l0 (ji9)).f0)) ∧ w'.cell? ⟨(ad101.add (((ji9)).toNat * 4)).block,(ad101.add (((ji9)).toNat * 4)).off + 1,none⟩ = some (.int .i64 ((kw l0 (ji9)).f1)) ∧ w'.cell? ⟨(ad101.add (((ji9)).toNat * 4)).block,(ad101.add (((ji9)).toNat * 4)).off + 2,none⟩ = some (.int .i64 ((kw l0 (ji9)).f2)) ∧ w'.cell? ⟨(ad101.add (((ji9)).toNat * 4)).block,(ad101.add (((ji9)).toNat * 4)).off + 3,none⟩ = some (.int .i64 ((kw l0 (ji9)).f3))) (w32) from ⟨(qw BK102.out 0).trans rfl,(qw BK102.out 1).trans rfl,(qw BK102.out 2).trans rfl,(qw BK102.out 3).trans rfl,((HB.out.cell (World.block_lt_of_cell? w _ hw104_0)).trans hw104_0),((HB.out.cell (World.block_lt_of_cell? w _ hw104_1)).trans hw104_1),((HB.out.cell (World.block_lt_of_cell? w _ hw104_2)).trans hw104_2),((HB.out.cell (World.block_lt_of_cell? w _ hw104_3)).trans hw104_3)⟩)
                obtain ⟨hS0_,hS1_,hS2_,hS3_,hS4_,hS5_,hS6_,hS7_⟩ := hS_
                go_quiet ((first | (go_at_call 40;exact Calls.quiet_of ((vk.calls k1 ((kw l0 x10_1).f0) true _ A6.out).mono fun _ _ h => ⟨h.1,h.2.out⟩)) | (go_at_call 41;exact Calls.quiet_of ((vv.calls k1 ((kw l0 x10_1).f1) true _ A13.out).mono fun _ _ h => ⟨h.1,h.2.out⟩))))
                clear hS0_ hS1_ hS2_ hS3_ hS4_ hS5_ hS6_ hS7_
                have n0_ := qq.mk (zz BK102.out nq)
                have n1_ := qq.mk (qz HB.out nq)
                clear BK102
                clear HB
                have BK102 := n0_
                have HB := n1_
                clear n0_ n1_
                replace hx104_0 : (World.drewN w32 nq).cell? _ = _ := hx104_0
                replace hx104_1 : (World.drewN w32 nq).cell? _ = _ := hx104_1
                replace hx104_2 : (World.drewN w32 nq).cell? _ = _ := hx104_2
                replace hx104_3 : (World.drewN w32 nq).cell? _ = _ := hx104_3
                generalize World.drewN w32 nq = w33 at BK102 HB hx104_0 hx104_1 hx104_2 hx104_3 ⊢
                try go_wp2
                go_roundg k1
                case measure => have := HK1.out;omega
                case rel => exact ⟨(wrap64 (x10_1 + 1)),(by first | rfl | (simp;done) | (simp [*];done)),H',⟨by have := HK1.out;omega⟩,⟨by repeat (first | (with_reducible first | exact HB.out | apply qj | apply qz | apply qk | refine qx ?_ GE102.out) | exact HB.out)⟩⟩
            ·replace c14 := Bool.eq_false_iff.mpr c14
             subst c14
             have H1 : (some false) = some r := by rw [if_neg (show ¬ (false = true) by decide)] at H;exact H
             clear H
             have H := H1
             clear H1
             obtain rfl := Option.some.inj H
             have p101 : 0 ≤ (x10_1 : Int) := of_decide_eq_true (by assumption)
             have q101 : x10_1 < (l0.length : Int) := of_decide_eq_true (by assumption)
             obtain ⟨ad101,e101,hx101_0,hx101_1,hx101_2,hx101_3⟩ := at_T53 HR0.out x10_1 p101 q101
             cases e101
             replace hx101_0 := (HB.out.cell (World.block_lt_of_cell? w _ hx101_0)).trans hx101_0
             replace hx101_1 := (HB.out.cell (World.block_lt_of_cell? w _ hx101_1)).trans hx101_1
             replace hx101_2 := (HB.out.cell (World.block_lt_of_cell? w _ hx101_2)).trans hx101_2
             replace hx101_3 := (HB.out.cell (World.block_lt_of_cell? w _ hx101_3)).trans hx101_3
             replace p101 := eq_true p101
             replace q101 := eq_true q101
             try go_wp2_with (first | ((with_reducible refine gate_dst (N := 4) rfl ?_);refine box_event ?hg (N := 4) ?hd (cs := #[.string (⟨#[]⟩ : ByteArray),.int .i64 0,.int .i64 0,.int .i64 0]) (t := 53) ?hr ?_;(case hd => rfl);(case hg => rfl);(case hr => first | (go_simp;done) | (go_simp;rfl));intro gb102 hg w34 hbox hb;have n0_ := qq.mk (zv (by repeat (first | (with_reducible first | exact HB.out | apply qj | apply qz | apply qk) | exact HB.out)) hb);have n1_ := qq.mk (hbox);have n2_ := qq.mk ((by rw [hg];exact (zw (by repeat (first | (with_reducible first | exact HB.out | apply qj | apply qz | apply qk) | exact HB.out))) : w.heap.size ≤ gb102));have n3_ := qq.mk ((by rw [hg];exact (zw (by repeat (first | (with_reducible first | exact HB.out | apply qj | apply qz | apply qk) | exact HB.out))) : w.heap.size ≤ gb102));clear HB;have HB := n0_;have BK102 := n1_;have GW102 := n2_;have GE102 := n3_;clear n0_ n1_ n2_ n3_;clear hb hbox hg;have hcz35_0 : w34.cell? ⟨gb102,0,none⟩ = some (.string (⟨#[]⟩ : ByteArray)) := (qw BK102.out 0).trans rfl;have hcz35_1 : w34.cell? ⟨gb102,1,none⟩ = some (.int .i64 0) := (qw BK102.out 1).trans rfl;have hcz35_2 : w34.cell? ⟨gb102,2,none⟩ = some (.int .i64 0) := (qw BK102.out 2).trans rfl;have hcz35_3 : w34.cell? ⟨gb102,3,none⟩ = some (.int .i64 0) := (qw BK102.out 3).trans rfl;have hfz35_0 := qv BK102.out 0;have hfz35_1 := qv BK102.out 1;have hfz35_2 := qv BK102.out 2;have hfz35_3 := qv BK102.out 3))
             have n0_ : qq (((((w34.setCell ⟨gb102,0,none⟩ (.string ((kw l0 x10_1).f0))).setCell ⟨gb102,1,none⟩ (.int .i64 ((kw l0 x10_1).f1))).setCell ⟨gb102,2,none⟩ (.int .i64 ((kw l0 x10_1).f2))).setCell ⟨gb102,3,none⟩ (.int .i64 ((kw l0 x10_1).f3))).heap[gb102]? = some (.cells #[.string ((kw l0 x10_1).f0),.int .i64 ((kw l0 x10_1).f1),.int .i64 ((kw l0 x10_1).f2),.int .i64 ((kw l0 x10_1).f3)] 53 (0,0))) := ⟨by (with_reducible repeat (first | refine zz ?_ _ | refine zj ?_ | refine zq ?_ _));refine blk_put (cs := #[.string ((kw l0 x10_1).f0),.int .i64 ((kw l0 x10_1).f1),.int .i64 ((kw l0 x10_1).f2),.int .i64 0]) ?_ 3 _ rfl;(with_reducible repeat (first | refine zz ?_ _ | refine zj ?_ | refine zq ?_ _));refine blk_put (cs := #[.string ((kw l0 x10_1).f0),.int .i64 ((kw l0 x10_1).f1),.int .i64 0,.int .i64 0]) ?_ 2 _ rfl;(with_reducible repeat (first | refine zz ?_ _ | refine zj ?_ | refine zq ?_ _));refine blk_put (cs := #[.string ((kw l0 x10_1).f0),.int .i64 0,.int .i64 0,.int .i64 0]) ?_ 1 _ rfl;(with_reducible repeat (first | refine zz ?_ _ | refine zj ?_ | refine zq ?_ _));refine blk_put (cs := #[.string (⟨#[]⟩ : ByteArray),.int .i64 0,.int .i64 0,.int .i64 0]) ?_ 0 _ rfl;(with_reducible repeat (first | refine zz ?_ _ | refine zj ?_ | refine zq ?_ _));exact BK102.out⟩
             have n1_ : qq (Below w.heap.size w ((((w34.setCell ⟨gb102,0,none⟩ (.string ((kw l0 x10_1).f0))).setCell ⟨gb102,1,none⟩ (.int .i64 ((kw l0 x10_1).f1))).setCell ⟨gb102,2,none⟩ (.int .i64 ((kw l0 x10_1).f2))).setCell ⟨gb102,3,none⟩ (.int .i64 ((kw l0 x10_1).f3)))) := ⟨by repeat (first | (with_reducible first | exact HB.out | apply qj | apply qz | apply qk | refine qx ?_ GE102.out) | exact HB.out)⟩
             (try clear BK102)
             (try clear HB)
             generalize ((((w34.setCell ⟨gb102,0,none⟩ (.string ((kw l0 x10_1).f0))).setCell ⟨gb102,1,none⟩ (.int .i64 ((kw l0 x10_1).f1))).setCell ⟨gb102,2,none⟩ (.int .i64 ((kw l0 x10_1).f2))).setCell ⟨gb102,3,none⟩ (.int .i64 ((kw l0 x10_1).f3))) = w36 at n0_ n1_ ⊢
             have BK102 := n0_
             have HB := n1_
             clear n0_ n1_
             have p104 : 0 ≤ ((ji9) : Int) := of_decide_eq_true (by assumption)
             have q104 : (ji9) < (l0.length : Int) := of_decide_eq_true (by assumption)
             obtain ⟨ad104,e104,hx104_0,hx104_1,hx104_2,hx104_3⟩ := at_T53 HR0.out (ji9) p104 q104
             have hw104_3 := hx104_3
             have hw104_2 := hx104_2
             have hw104_1 := hx104_1
             have hw104_0 := hx104_0
             obtain rfl : ad101 = ad104 := (by injection e104)
             replace hx104_0 := (HB.out.cell (World.block_lt_of_cell? w _ hx104_0)).trans hx104_0
             replace hx104_1 := (HB.out.cell (World.block_lt_of_cell? w _ hx104_1)).trans hx104_1
             replace hx104_2 := (HB.out.cell (World.block_lt_of_cell? w _ hx104_2)).trans hx104_2
             replace hx104_3 := (HB.out.cell (World.block_lt_of_cell? w _ hx104_3)).trans hx104_3
             replace p104 := eq_true p104
             replace q104 := eq_true q104
             have hS_ := (show (fun w' => w'.cell? ⟨gb102,0,none⟩ = some (.string ((kw l0 x10_1).f0)) ∧ w'.cell? ⟨gb102,1,none⟩ = some (.int .i64 ((kw l0 x10_1).f1)) ∧ w'.cell? ⟨gb102,2,none⟩ = some (.int .i64 ((kw l0 x10_1).f2)) ∧ w'.cell? ⟨gb102,3,none⟩ = some (.int .i64 ((kw l0 x10_1).f3)) ∧ w'.cell? (ad101.add (((ji9)).toNat * 4)) = some (.string ((kw l0 (ji9)).f0)) ∧ w'.cell? ⟨(ad101.add (((ji9)).toNat * 4)).block,(ad101.add (((ji9)).toNat * 4)).off + 1,none⟩ = some (.int .i64 ((kw l0 (ji9)).f1)) ∧ w'.cell? ⟨(ad101.add (((ji9)).toNat * 4)).block,(ad101.add (((ji9)).toNat * 4)).off + 2,none⟩ = some (.int .i64 ((kw l0 (ji9)).f2)) ∧ w'.cell? ⟨(ad101.add (((ji9)).toNat * 4)).block,(ad101.add (((ji9)).toNat * 4)).off + 3,none⟩ = some (.int .i64 ((kw l0 (ji9)).f3))) (w36) from ⟨(qw BK102.out 0).trans rfl,(qw BK102.out 1).trans rfl,(qw BK102.out 2).trans rfl,(qw BK102.out 3).trans rfl,((HB.out.cell (World.block_lt_of_cell? w _ hw104_0)).trans hw104_0),((HB.out.cell (World.block_lt_of_cell? w _ hw104_1)).trans hw104_1),((HB.out.cell (World.block_lt_of_cell? w _ hw104_2)).trans hw104_2),((HB.out.cell (World.block_lt_of_cell? w _ hw104_3)).trans hw104_3)⟩)
             obtain ⟨hS0_,hS1_,hS2_,hS3_,hS4_,hS5_,hS6_,hS7_⟩ := hS_
             go_quiet ((first | (go_at_call 40;exact Calls.quiet_of ((vk.calls k1 ((kw l0 x10_1).f0) true _ A6.out).mono fun _ _ h => ⟨h.1,h.2.out⟩)) | (go_at_call 41;exact Calls.quiet_of ((vv.calls k1 ((kw l0 x10_1).f1) false _ A13.out).mono fun _ _ h => ⟨h.1,h.2.out⟩))))
             clear hS0_ hS1_ hS2_ hS3_ hS4_ hS5_ hS6_ hS7_
             have n0_ := qq.mk (zz BK102.out nq)
             have n1_ := qq.mk (qz HB.out nq)
             clear BK102
             clear HB
             have BK102 := n0_
             have HB := n1_
             clear n0_ n1_
             replace hx104_0 : (World.drewN w36 nq).cell? _ = _ := hx104_0
             replace hx104_1 : (World.drewN w36 nq).cell? _ = _ := hx104_1
             replace hx104_2 : (World.drewN w36 nq).cell? _ = _ := hx104_2
             replace hx104_3 : (World.drewN w36 nq).cell? _ = _ := hx104_3
             generalize World.drewN w36 nq = w37 at BK102 HB hx104_0 hx104_1 hx104_2 hx104_3 ⊢
             try go_wp2
             go_ret
             exact ⟨by first | rfl | (simp [jk,jj] <;> rfl) | (simp only [← hji9];first | rfl | (simp [jk,jj] <;> rfl)) | (simp [*,jk,jj] <;> rfl),by repeat (first | (with_reducible first | exact HB.out | apply qj | apply qz | apply qk | refine qx ?_ GE102.out) | exact HB.out)⟩
           ·rw [if_neg c12] at H
            have c12b0 : (Op.bytesLess (((kw l0 (ji9)).f0).toList) (((kw l0 x10_1).f0).toList)) = false := by simpa using c12
            clear c12
            obtain rfl := Option.some.inj H
            have p101 : 0 ≤ (x10_1 : Int) := of_decide_eq_true (by assumption)
            have q101 : x10_1 < (l0.length : Int) := of_decide_eq_true (by assumption)
            obtain ⟨ad101,e101,hx101_0,hx101_1,hx101_2,hx101_3⟩ := at_T53 HR0.out x10_1 p101 q101
            cases e101
            replace hx101_0 := (HB.out.cell (World.block_lt_of_cell? w _ hx101_0)).trans hx101_0
            replace hx101_1 := (HB.out.cell (World.block_lt_of_cell? w _ hx101_1)).trans hx101_1
            replace hx101_2 := (HB.out.cell (World.block_lt_of_cell? w _ hx101_2)).trans hx101_2
            replace hx101_3 := (HB.out.cell (World.block_lt_of_cell? w _ hx101_3)).trans hx101_3
            replace p101 := eq_true p101
            replace q101 := eq_true q101
            try go_wp2_with (first | ((with_reducible refine gate_dst (N := 4) rfl ?_);refine box_event ?hg (N := 4) ?hd (cs := #[.string (⟨#[]⟩ : ByteArray),.int .i64 0,.int .i64 0,.int .i64 0]) (t := 53) ?hr ?_;(case hd => rfl);(case hg => rfl);(case hr => first | (go_simp;done) | (go_simp;rfl));intro gb102 hg w38 hbox hb;have n0_ := qq.mk (zv (by repeat (first | (with_reducible first | exact HB.out | apply qj | apply qz | apply qk) | exact HB.out)) hb);have n1_ := qq.mk (hbox);have n2_ := qq.mk ((by rw [hg];exact (zw (by repeat (first | (with_reducible first | exact HB.out | apply qj | apply qz | apply qk) | exact HB.out))) : w.heap.size ≤ gb102));have n3_ := qq.mk ((by rw [hg];exact (zw (by repeat (first | (with_reducible first | exact HB.out | apply qj | apply qz | apply qk) | exact HB.out))) : w.heap.size ≤ gb102));clear HB;have HB := n0_;have BK102 := n1_;have GW102 := n2_;have GE102 := n3_;clear n0_ n1_ n2_ n3_;clear hb hbox hg;have hcz39_0 : w38.cell? ⟨gb102,0,none⟩ = some (.string (⟨#[]⟩ : ByteArray)) := (qw BK102.out 0).trans rfl;have hcz39_1 : w38.cell? ⟨gb102,1,none⟩ = some (.int .i64 0) := (qw BK102.out 1).trans rfl;have hcz39_2 : w38.cell? ⟨gb102,2,none⟩ = some (.int .i64 0) := (qw BK102.out 2).trans rfl;have hcz39_3 : w38.cell? ⟨gb102,3,none⟩ = some (.int .i64 0) := (qw BK102.out 3).trans rfl;have hfz39_0 := qv BK102.out 0;have hfz39_1 := qv BK102.out 1;have hfz39_2 := qv BK102.out 2;have hfz39_3 := qv BK102.out 3))
            have n0_ : qq (((((w38.setCell ⟨gb102,0,none⟩ (.string ((kw l0 x10_1).f0))).setCell ⟨gb102,1,none⟩ (.int .i64 ((kw l0 x10_1).f1))).setCell ⟨gb102,2,none⟩ (.int .i64 ((kw l0 x10_1).f2))).setCell ⟨gb102,3,none⟩ (.int .i64 ((kw l0 x10_1).f3))).heap[gb102]? = some (.cells #[.string ((kw l0 x10_1).f0),.int .i64 ((kw l0 x10_1).f1),.int .i64 ((kw l0 x10_1).f2),.int .i64 ((kw l0 x10_1).f3)] 53 (0,0))) := ⟨by (with_reducible repeat (first | refine zz ?_ _ | refine zj ?_ | refine zq ?_ _));refine blk_put (cs := #[.string ((kw l0 x10_1).f0),.int .i64 ((kw l0 x10_1).f1),.int .i64 ((kw l0 x10_1).f2),.int .i64 0]) ?_ 3 _ rfl;(with_reducible repeat (first | refine zz ?_ _ | refine zj ?_ | refine zq ?_ _));refine blk_put (cs := #[.string ((kw l0 x10_1).f0),.int .i64 ((kw l0 x10_1).f1),.int .i64 0,.int .i64 0]) ?_ 2 _ rfl;(with_reducible repeat (first | refine zz ?_ _ | refine zj ?_ | refine zq ?_ _));refine blk_put (cs := #[.string ((kw l0 x10_1).f0),.int .i64 0,.int .i64 0,.int .i64 0]) ?_ 1 _ rfl;(with_reducible repeat (first | refine zz ?_ _ | refine zj ?_ | refine zq ?_ _));refine blk_put (cs := #[.string (⟨#[]⟩ : ByteArray),.int .i64 0,.int .i64 0,.int .i64 0]) ?_ 0 _ rfl;(with_reducible repeat (first | refine zz ?_ _ | refine zj ?_ | refine zq ?_ _));exact BK102.out⟩
            have n1_ : qq (Below w.heap.size w ((((w38.setCell ⟨gb102,0,none⟩ (.string ((kw l0 x10_1).f0))).setCell ⟨gb102,1,none⟩ (.int .i64 ((kw l0 x10_1).f1))).setCell ⟨gb102,2,none⟩ (.int .i64 ((kw l0 x10_1).f2))).setCell ⟨gb102,3,none⟩ (.int .i64 ((kw l0 x10_1).f3)))) := ⟨by repeat (first | (with_reducible first | exact HB.out | apply qj | apply qz | apply qk | refine qx ?_ GE102.out) | exact HB.out)⟩
            (try clear BK102)
            (try clear HB)
            generalize ((((w38.setCell ⟨gb102,0,none⟩ (.string ((kw l0 x10_1).f0))).setCell ⟨gb102,1,none⟩ (.int .i64 ((kw l0 x10_1).f1))).setCell ⟨gb102,2,none⟩ (.int .i64 ((kw l0 x10_1).f2))).setCell ⟨gb102,3,none⟩ (.int .i64 ((kw l0 x10_1).f3))) = w40 at n0_ n1_ ⊢
            have BK102 := n0_
            have HB := n1_
            clear n0_ n1_
            have p104 : 0 ≤ ((ji9) : Int) := of_decide_eq_true (by assumption)
            have q104 : (ji9) < (l0.length : Int) := of_decide_eq_true (by assumption)
            obtain ⟨ad104,e104,hx104_0,hx104_1,hx104_2,hx104_3⟩ := at_T53 HR0.out (ji9) p104 q104
            have hw104_3 := hx104_3
            have hw104_2 := hx104_2
            have hw104_1 := hx104_1
            have hw104_0 := hx104_0
            obtain rfl : ad101 = ad104 := (by injection e104)
            replace hx104_0 := (HB.out.cell (World.block_lt_of_cell? w _ hx104_0)).trans hx104_0
            replace hx104_1 := (HB.out.cell (World.block_lt_of_cell? w _ hx104_1)).trans hx104_1
            replace hx104_2 := (HB.out.cell (World.block_lt_of_cell? w _ hx104_2)).trans hx104_2
            replace hx104_3 := (HB.out.cell (World.block_lt_of_cell? w _ hx104_3)).trans hx104_3
            replace p104 := eq_true p104
            replace q104 := eq_true q104
            have hS_ := (show (fun w' => w'.cell? ⟨gb102,0,none⟩ = some (.string ((kw l0 x10_1).f0)) ∧ w'.cell? ⟨gb102,1,none⟩ = some (.int .i64 ((kw l0 x10_1).f1)) ∧ w'.cell? ⟨gb102,2,none⟩ = some (.int .i64 ((kw l0 x10_1).f2)) ∧ w'.cell? ⟨gb102,3,none⟩ = some (.int .i64 ((kw l0 x10_1).f3)) ∧ w'.cell? (ad101.add (((ji9)).toNat * 4)) = some (.string ((kw l0 (ji9)).f0)) ∧ w'.cell? ⟨(ad101.add (((ji9)).toNat * 4)).block,(ad101.add (((ji9)).toNat * 4)).off + 1,none⟩ = some (.int .i64 ((kw l0 (ji9)).f1)) ∧ w'.cell? ⟨(ad101.add (((ji9)).toNat * 4)).block,(ad101.add (((ji9)).toNat * 4)).off + 2,none⟩ = some (.int .i64 ((kw l0 (ji9)).f2)) ∧ w'.cell? ⟨(ad101.add (((ji9)).toNat * 4)).block,(ad101.add (((ji9)).toNat * 4)).off + 3,none⟩ = some (.int .i64 ((kw l0 (ji9)).f3))) (w40) from ⟨(qw BK102.out 0).trans rfl,(qw BK102.out 1).trans rfl,(qw BK102.out 2).trans rfl,(qw BK102.out 3).trans rfl,((HB.out.cell (World.block_lt_of_cell? w _ hw104_0)).trans hw104_0),((HB.out.cell (World.block_lt_of_cell? w _ hw104_1)).trans hw104_1),((HB.out.cell (World.block_lt_of_cell? w _ hw104_2)).trans hw104_2),((HB.out.cell (World.block_lt_of_cell? w _ hw104_3)).trans hw104_3)⟩)
            obtain ⟨hS0_,hS1_,hS2_,hS3_,hS4_,hS5_,hS6_,hS7_⟩ := hS_
            go_quiet ((first | (go_at_call 40;exact Calls.quiet_of ((vk.calls k1 ((kw l0 x10_1).f0) true _ A6.out).mono fun _ _ h => ⟨h.1,h.2.out⟩))))
            clear hS0_ hS1_ hS2_ hS3_ hS4_ hS5_ hS6_ hS7_
            have n0_ := qq.mk (zz BK102.out nq)
            have n1_ := qq.mk (qz HB.out nq)
            clear BK102
            clear HB
            have BK102 := n0_
            have HB := n1_
            clear n0_ n1_
            replace hx104_0 : (World.drewN w40 nq).cell? _ = _ := hx104_0
            replace hx104_1 : (World.drewN w40 nq).cell? _ = _ := hx104_1
            replace hx104_2 : (World.drewN w40 nq).cell? _ = _ := hx104_2
            replace hx104_3 : (World.drewN w40 nq).cell? _ = _ := hx104_3
            generalize World.drewN w40 nq = w41 at BK102 HB hx104_0 hx104_1 hx104_2 hx104_3 ⊢
            try go_wp2
            go_ret
            exact ⟨by first | rfl | (simp [jk,jj] <;> rfl) | (simp only [← hji9];first | rfl | (simp [jk,jj] <;> rfl)) | (simp [*,jk,jj] <;> rfl),by repeat (first | (with_reducible first | exact HB.out | apply qj | apply qz | apply qk | refine qx ?_ GE102.out) | exact HB.out)⟩
          ·rw [if_neg c11] at H
           exact absurd H (by simp)
         ·rw [if_neg c10] at H
          exact absurd H (by simp)
        ·rw [if_neg c8] at H
         have c8b0 : decide (0 < x10_1) = false := decide_eq_false c8
         clear c8
         replace H := Option.bind_eq_some_iff.mp H
         obtain ⟨t106,A420,H⟩ := H
         replace H : (if t106 = true then (if ((kw l0 x10_1).f2) < 0 then (some false) else (if ((kw l0 x10_1).f2) > ((kw l0 x10_1).f3) then (some false) else (if ((kw l0 x10_1).f3) > 100000000000 then (some false) else (kx.l0 k1 l0 l0 (l0.length : Int) (wrap64 (x10_1 + 1)))))) else (some false)) = some r := H
         have A42 := qq.mk A420
         clear A420
         by_cases c43 : t106 = true
         ·subst c43
          have H1 : (if ((kw l0 x10_1).f2) < 0 then (some false) else (if ((kw l0 x10_1).f2) > ((kw l0 x10_1).f3) then (some false) else (if ((kw l0 x10_1).f3) > 100000000000 then (some false) else (kx.l0 k1 l0 l0 (l0.length : Int) (wrap64 (x10_1 + 1)))))) = some r := by rw [if_pos rfl] at H;exact H
          clear H
          have H := H1
          clear H1
          by_cases c44 : ((kw l0 x10_1).f2) < 0
          ·rw [if_pos c44] at H
           have c44b0 : decide (((kw l0 x10_1).f2) < 0) = true := decide_eq_true c44
           clear c44
           obtain rfl := Option.some.inj H
           have p101 : 0 ≤ (x10_1 : Int) := of_decide_eq_true (by assumption)
           have q101 : x10_1 < (l0.length : Int) := of_decide_eq_true (by assumption)
           obtain ⟨ad101,e101,hx101_0,hx101_1,hx101_2,hx101_3⟩ := at_T53 HR0.out x10_1 p101 q101
           cases e101
           replace hx101_0 := (HB.out.cell (World.block_lt_of_cell? w _ hx101_0)).trans hx101_0
           replace hx101_1 := (HB.out.cell (World.block_lt_of_cell? w _ hx101_1)).trans hx101_1
           replace hx101_2 := (HB.out.cell (World.block_lt_of_cell? w _ hx101_2)).trans hx101_2
           replace hx101_3 := (HB.out.cell (World.block_lt_of_cell? w _ hx101_3)).trans hx101_3
           replace p101 := eq_true p101
           replace q101 := eq_true q101
           try go_wp2_with (first | ((with_reducible refine gate_dst (N := 4) rfl ?_);refine box_event ?hg (N := 4) ?hd (cs := #[.string (⟨#[]⟩ : ByteArray),.int .i64 0,.int .i64 0,.int .i64 0]) (t := 53) ?hr ?_;(case hd => rfl);(case hg => rfl);(case hr => first | (go_simp;done) | (go_simp;rfl));intro gb102 hg w45 hbox hb;have n0_ := qq.mk (zv (by repeat (first | (with_reducible first | exact HB.out | apply qj | apply qz | apply qk) | exact HB.out)) hb);have n1_ := qq.mk (hbox);have n2_ := qq.mk ((by rw [hg];exact (zw (by repeat (first | (with_reducible first | exact HB.out | apply qj | apply qz | apply qk) | exact HB.out))) : w.heap.size ≤ gb102));have n3_ := qq.mk ((by rw [hg];exact (zw (by repeat (first | (with_reducible first | exact HB.out | apply qj | apply qz | apply qk) | exact HB.out))) : w.heap.size ≤ gb102));clear HB;have HB := n0_;have BK102 := n1_;have GW102 := n2_;have GE102 := n3_;clear n0_ n1_ n2_ n3_;clear hb hbox hg;have hcz46_0 : w45.cell? ⟨gb102,0,none⟩ = some (.string (⟨#[]⟩ : ByteArray)) := (qw BK102.out 0).trans rfl;have hcz46_1 : w45.cell? ⟨gb102,1,none⟩ = some (.int .i64 0) := (qw BK102.out 1).trans rfl;have hcz46_2 : w45.cell? ⟨gb102,2,none⟩ = some (.int .i64 0) := (qw BK102.out 2).trans rfl;have hcz46_3 : w45.cell? ⟨gb102,3,none⟩ = some (.int .i64 0) := (qw BK102.out 3).trans rfl;have hfz46_0 := qv BK102.out 0;have hfz46_1 := qv BK102.out 1;have hfz46_2 := qv BK102.out 2;have hfz46_3 := qv BK102.out 3))
           have n0_ : qq (((((w45.setCell ⟨gb102,0,none⟩ (.string ((kw l0 x10_1).f0))).setCell ⟨gb102,1,none⟩ (.int .i64 ((kw l0 x10_1).f1))).setCell ⟨gb102,2,none⟩ (.int .i64 ((kw l0 x10_1).f2))).setCell ⟨gb102,3,none⟩ (.int .i64 ((kw l0 x10_1).f3))).heap[gb102]? = some (.cells #[.string ((kw l0 x10_1).f0),.int .i64 ((kw l0 x10_1).f1),.int .i64 ((kw l0 x10_1).f2),.int .i64 ((kw l0 x10_1).f3)] 53 (0,0))) := ⟨by (with_reducible repeat (first | refine zz ?_ _ | refine zj ?_ | refine zq ?_ _));refine blk_put (cs := #[.string ((kw l0 x10_1).f0),.int .i64 ((kw l0 x10_1).f1),.int .i64 ((kw l0 x10_1).f2),.int .i64 0]) ?_ 3 _ rfl;(with_reducible repeat (first | refine zz ?_ _ | refine zj ?_ | refine zq ?_ _));refine blk_put (cs := #[.string ((kw l0 x10_1).f0),.int .i64 ((kw l0 x10_1).f1),.int .i64 0,.int .i64 0]) ?_ 2 _ rfl;(with_reducible repeat (first | refine zz ?_ _ | refine zj ?_ | refine zq ?_ _));refine blk_put (cs := #[.string ((kw l0 x10_1).f0),.int .i64 0,.int .i64 0,.int .i64 0]) ?_ 1 _ rfl;(with_reducible repeat (first | refine zz ?_ _ | refine zj ?_ | refine zq ?_ _));refine blk_put (cs := #[.string (⟨#[]⟩ : ByteArray),.int .i64 0,.int .i64 0,.int .i64 0]) ?_ 0 _ rfl;(with_reducible repeat (first | refine zz ?_ _ | refine zj ?_ | refine zq ?_ _));exact BK102.out⟩
           have n1_ : qq (Below w.heap.size w ((((w45.setCell ⟨gb102,0,none⟩ (.string ((kw l0 x10_1).f0))).setCell ⟨gb102,1,none⟩ (.int .i64 ((kw l0 x10_1).f1))).setCell ⟨gb102,2,none⟩ (.int .i64 ((kw l0 x10_1).f2))).setCell ⟨gb102,3,none⟩ (.int .i64 ((kw l0 x10_1).f3)))) := ⟨by repeat (first | (with_reducible first | exact HB.out | apply qj | apply qz | apply qk | refine qx ?_ GE102.out) | exact HB.out)⟩
           (try clear BK102)
           (try clear HB)
           generalize ((((w45.setCell ⟨gb102,0,none⟩ (.string ((kw l0 x10_1).f0))).setCell ⟨gb102,1,none⟩ (.int .i64 ((kw l0 x10_1).f1))).setCell ⟨gb102,2,none⟩ (.int .i64 ((kw l0 x10_1).f2))).setCell ⟨gb102,3,none⟩ (.int .i64 ((kw l0 x10_1).f3))) = w47 at n0_ n1_ ⊢
           have BK102 := n0_
           have HB := n1_
           clear n0_ n1_
           have hS_ := (show (fun w' => w'.cell? ⟨gb102,0,none⟩ = some (.string ((kw l0 x10_1).f0)) ∧ w'.cell? ⟨gb102,1,none⟩ = some (.int .i64 ((kw l0 x10_1).f1)) ∧ w'.cell? ⟨gb102,2,none⟩ = some (.int .i64 ((kw l0 x10_1).f2)) ∧ w'.cell? ⟨gb102,3,none⟩ = some (.int .i64 ((kw l0 x10_1).f3))) (w47) from ⟨(qw BK102.out 0).trans rfl,(qw BK102.out 1).trans rfl,(qw BK102.out 2).trans rfl,(qw BK102.out 3).trans rfl⟩)
           obtain ⟨hS0_,hS1_,hS2_,hS3_⟩ := hS_
           go_quiet ((first | (go_at_call 40;exact Calls.quiet_of ((vk.calls k1 ((kw l0 x10_1).f0) true _ A6.out).mono fun _ _ h => ⟨h.1,h.2.out⟩)) | (go_at_call 41;exact Calls.quiet_of ((vv.calls k1 ((kw l0 x10_1).f1) true _ A42.out).mono fun _ _ h => ⟨h.1,h.2.out⟩))))
           clear hS0_ hS1_ hS2_ hS3_
           have n0_ := qq.mk (zz BK102.out nq)
           have n1_ := qq.mk (qz HB.out nq)
           clear BK102
           clear HB
           have BK102 := n0_
           have HB := n1_
           clear n0_ n1_
           generalize World.drewN w47 nq = w48 at BK102 HB ⊢
           try go_wp2
           go_ret
           exact ⟨by first | rfl | (simp [*,jk,jj] <;> rfl),by repeat (first | (with_reducible first | exact HB.out | apply qj | apply qz | apply qk | refine qx ?_ GE102.out) | exact HB.out)⟩
          ·rw [if_neg c44] at H
           have c44b0 : decide (((kw l0 x10_1).f2) < 0) = false := decide_eq_false c44
           clear c44
           by_cases c49 : ((kw l0 x10_1).f2) > ((kw l0 x10_1).f3)
           ·rw [if_pos c49] at H
            have c49b0 : decide (((kw l0 x10_1).f3) < ((kw l0 x10_1).f2)) = true := decide_eq_true c49
            clear c49
            obtain rfl := Option.some.inj H
            have p101 : 0 ≤ (x10_1 : Int) := of_decide_eq_true (by assumption)
            have q101 : x10_1 < (l0.length : Int) := of_decide_eq_true (by assumption)
            obtain ⟨ad101,e101,hx101_0,hx101_1,hx101_2,hx101_3⟩ := at_T53 HR0.out x10_1 p101 q101
            cases e101
            replace hx101_0 := (HB.out.cell (World.block_lt_of_cell? w _ hx101_0)).trans hx101_0
            replace hx101_1 := (HB.out.cell (World.block_lt_of_cell? w _ hx101_1)).trans hx101_1
            replace hx101_2 := (HB.out.cell (World.block_lt_of_cell? w _ hx101_2)).trans hx101_2
            replace hx101_3 := (HB.out.cell (World.block_lt_of_cell? w _ hx101_3)).trans hx101_3
            replace p101 := eq_true p101
            replace q101 := eq_true q101
            try go_wp2_with (first | ((with_reducible refine gate_dst (N := 4) rfl ?_);refine box_event ?hg (N := 4) ?hd (cs := #[.string (⟨#[]⟩ : ByteArray),.int .i64 0,.int .i64 0,.int .i64 0]) (t := 53) ?hr ?_;(case hd => rfl);(case hg => rfl);(case hr => first | (go_simp;done) | (go_simp;rfl));intro gb102 hg w50 hbox hb;have n0_ := qq.mk (zv (by repeat (first | (with_reducible first | exact HB.out | apply qj | apply qz | apply qk) | exact HB.out)) hb);have n1_ := qq.mk (hbox);have n2_ := qq.mk ((by rw [hg];exact (zw (by repeat (first | (with_reducible first | exact HB.out | apply qj | apply qz | apply qk) | exact HB.out))) : w.heap.size ≤ gb102));have n3_ := qq.mk ((by rw [hg];exact (zw (by repeat (first | (with_reducible first | exact HB.out | apply qj | apply qz | apply qk) | exact HB.out))) : w.heap.size ≤ gb102));clear HB;have HB := n0_;have BK102 := n1_;have GW102 := n2_;have GE102 := n3_;clear n0_ n1_ n2_ n3_;clear hb hbox hg;have hcz51_0 : w50.cell? ⟨gb102,0,none⟩ = some (.string (⟨#[]⟩ : ByteArray)) := (qw BK102.out 0).trans rfl;have hcz51_1 : w50.cell? ⟨gb102,1,none⟩ = some (.int .i64 0) := (qw BK102.out 1).trans rfl;have hcz51_2 : w50.cell? ⟨gb102,2,none⟩ = some (.int .i64 0) := (qw BK102.out 2).trans rfl;have hcz51_3 : w50.cell? ⟨gb102,3,none⟩ = some (.int .i64 0) := (qw BK102.out 3).trans rfl;have hfz51_0 := qv BK102.out 0;have hfz51_1 := qv BK102.out 1;have hfz51_2 := qv BK102.out 2;have hfz51_3 := qv BK102.out 3))
            have n0_ : qq (((((w50.setCell ⟨gb102,0,none⟩ (.string ((kw l0 x10_1).f0))).setCell ⟨gb102,1,none⟩ (.int .i64 ((kw l0 x10_1).f1))).setCell ⟨gb102,2,none⟩ (.int .i64 ((kw l0 x10_1).f2))).setCell ⟨gb102,3,none⟩ (.int .i64 ((kw l0 x10_1).f3))).heap[gb102]? = some (.cells #[.string ((kw l0 x10_1).f0),.int .i64 ((kw l0 x10_1).f1),.int .i64 ((kw l0 x10_1).f2),.int .i64 ((kw l0 x10_1).f3)] 53 (0,0))) := ⟨by (with_reducible repeat (first | refine zz ?_ _ | refine zj ?_ | refine zq ?_ _));refine blk_put (cs := #[.string ((kw l0 x10_1).f0),.int .i64 ((kw l0 x10_1).f1),.int .i64 ((kw l0 x10_1).f2),.int .i64 0]) ?_ 3 _ rfl;(with_reducible repeat (first | refine zz ?_ _ | refine zj ?_ | refine zq ?_ _));refine blk_put (cs := #[.string ((kw l0 x10_1).f0),.int .i64 ((kw l0 x10_1).f1),.int .i64 0,.int .i64 0]) ?_ 2 _ rfl;(with_reducible repeat (first | refine zz ?_ _ | refine zj ?_ | refine zq ?_ _));refine blk_put (cs := #[.string ((kw l0 x10_1).f0),.int .i64 0,.int .i64 0,.int .i64 0]) ?_ 1 _ rfl;(with_reducible repeat (first | refine zz ?_ _ | refine zj ?_ | refine zq ?_ _));refine blk_put (cs := #[.string (⟨#[]⟩ : ByteArray),.int .i64 0,.int .i64 0,.int .i64 0]) ?_ 0 _ rfl;(with_reducible repeat (first | refine zz ?_ _ | refine zj ?_ | refine zq ?_ _));exact BK102.out⟩
            have n1_ : qq (Below w.heap.size w ((((w50.setCell ⟨gb102,0,none⟩ (.string ((kw l0 x10_1).f0))).setCell ⟨gb102,1,none⟩ (.int .i64 ((kw l0 x10_1).f1))).setCell ⟨gb102,2,none⟩ (.int .i64 ((kw l0 x10_1).f2))).setCell ⟨gb102,3,none⟩ (.int .i64 ((kw l0 x10_1).f3)))) := ⟨by repeat (first | (with_reducible first | exact HB.out | apply qj | apply qz | apply qk | refine qx ?_ GE102.out) | exact HB.out)⟩
            (try clear BK102)
            (try clear HB)
            generalize ((((w50.setCell ⟨gb102,0,none⟩ (.string ((kw l0 x10_1).f0))).setCell ⟨gb102,1,none⟩ (.int .i64 ((kw l0 x10_1).f1))).setCell ⟨gb102,2,none⟩ (.int .i64 ((kw l0 x10_1).f2))).setCell ⟨gb102,3,none⟩ (.int .i64 ((kw l0 x10_1).f3))) = w52 at n0_ n1_ ⊢
            have BK102 := n0_
            have HB := n1_
            clear n0_ n1_
            have hS_ := (show (fun w' => w'.cell? ⟨gb102,0,none⟩ = some (.string ((kw l0 x10_1).f0)) ∧ w'.cell? ⟨gb102,1,none⟩ = some (.int .i64 ((kw l0 x10_1).f1)) ∧ w'.cell? ⟨gb102,2,none⟩ = some (.int .i64 ((kw l0 x10_1).f2)) ∧ w'.cell? ⟨gb102,3,none⟩ = some (.int .i64 ((kw l0 x10_1).f3))) (w52) from ⟨(qw BK102.out 0).trans rfl,(qw BK102.out 1).trans rfl,(qw BK102.out 2).trans rfl,(qw BK102.out 3).trans rfl⟩)
            obtain ⟨hS0_,hS1_,hS2_,hS3_⟩ := hS_
            go_quiet ((first | (go_at_call 40;exact Calls.quiet_of ((vk.calls k1 ((kw l0 x10_1).f0) true _ A6.out).mono fun _ _ h => ⟨h.1,h.2.out⟩)) | (go_at_call 41;exact Calls.quiet_of ((vv.calls k1 ((kw l0 x10_1).f1) true _ A42.out).mono fun _ _ h => ⟨h.1,h.2.out⟩))))
            clear hS0_ hS1_ hS2_ hS3_
            have n0_ := qq.mk (zz BK102.out nq)
            have n1_ := qq.mk (qz HB.out nq)
            clear BK102
            clear HB
            have BK102 := n0_
            have HB := n1_
            clear n0_ n1_
            generalize World.drewN w52 nq = w53 at BK102 HB ⊢
            try go_wp2
            go_ret
            exact ⟨by first | rfl | (simp [*,jk,jj] <;> rfl),by repeat (first | (with_reducible first | exact HB.out | apply qj | apply qz | apply qk | refine qx ?_ GE102.out) | exact HB.out)⟩
           ·rw [if_neg c49] at H
            have c49b0 : decide (((kw l0 x10_1).f3) < ((kw l0 x10_1).f2)) = false := decide_eq_false c49
            clear c49
            by_cases c54 : ((kw l0 x10_1).f3) > 100000000000
            ·rw [if_pos c54] at H
             have c54b0 : decide (100000000000 < ((kw l0 x10_1).f3)) = true := decide_eq_true c54
             clear c54
             obtain rfl := Option.some.inj H
             have p101 : 0 ≤ (x10_1 : Int) := of_decide_eq_true (by assumption)
             have q101 : x10_1 < (l0.length : Int) := of_decide_eq_true (by assumption)
             obtain ⟨ad101,e101,hx101_0,hx101_1,hx101_2,hx101_3⟩ := at_T53 HR0.out x10_1 p101 q101
             cases e101
             replace hx101_0 := (HB.out.cell (World.block_lt_of_cell? w _ hx101_0)).trans hx101_0
             replace hx101_1 := (HB.out.cell (World.block_lt_of_cell? w _ hx101_1)).trans hx101_1
             replace hx101_2 := (HB.out.cell (World.block_lt_of_cell? w _ hx101_2)).trans hx101_2
             replace hx101_3 := (HB.out.cell (World.block_lt_of_cell? w _ hx101_3)).trans hx101_3
             replace p101 := eq_true p101
             replace q101 := eq_true q101
             try go_wp2_with (first | ((with_reducible refine gate_dst (N := 4) rfl ?_);refine box_event ?hg (N := 4) ?hd (cs := #[.string (⟨#[]⟩ : ByteArray),.int .i64 0,.int .i64 0,.int .i64 0]) (t := 53) ?hr ?_;(case hd => rfl);(case hg => rfl);(case hr => first | (go_simp;done) | (go_simp;rfl));intro gb102 hg w55 hbox hb;have n0_ := qq.mk (zv (by repeat (first | (with_reducible first | exact HB.out | apply qj | apply qz | apply qk) | exact HB.out)) hb);have n1_ := qq.mk (hbox);have n2_ := qq.mk ((by rw [hg];exact (zw (by repeat (first | (with_reducible first | exact HB.out | apply qj | apply qz | apply qk) | exact HB.out))) : w.heap.size ≤ gb102));have n3_ := qq.mk ((by rw [hg];exact (zw (by repeat (first | (with_reducible first | exact HB.out | apply qj | apply qz | apply qk) | exact HB.out))) : w.heap.size ≤ gb102));clear HB;have HB := n0_;have BK102 := n1_;have GW102 := n2_;have GE102 := n3_;clear n0_ n1_ n2_ n3_;clear hb hbox hg;have hcz56_0 : w55.cell? ⟨gb102,0,none⟩ = some (.string (⟨#[]⟩ : ByteArray)) := (qw BK102.out 0).trans rfl;have hcz56_1 : w55.cell? ⟨gb102,1,none⟩ = some (.int .i64 0) := (qw BK102.out 1).trans rfl;have hcz56_2 : w55.cell? ⟨gb102,2,none⟩ = some (.int .i64 0) := (qw BK102.out 2).trans rfl;have hcz56_3 : w55.cell? ⟨gb102,3,none⟩ = some (.int .i64 0) := (qw BK102.out 3).trans rfl;have hfz56_0 := qv BK102.out 0;have hfz56_1 := qv BK102.out 1;have hfz56_2 := qv BK102.out 2;have hfz56_3 := qv BK102.out 3))
             have n0_ : qq (((((w55.setCell ⟨gb102,0,none⟩ (.string ((kw l0 x10_1).f0))).setCell ⟨gb102,1,none⟩ (.int .i64 ((kw l0 x10_1).f1))).setCell ⟨gb102,2,none⟩ (.int .i64 ((kw l0 x10_1).f2))).setCell ⟨gb102,3,none⟩ (.int .i64 ((kw l0 x10_1).f3))).heap[gb102]? = some (.cells #[.string ((kw l0 x10_1).f0),.int .i64 ((kw l0 x10_1).f1),.int .i64 ((kw l0 x10_1).f2),.int .i64 ((kw l0 x10_1).f3)] 53 (0,0))) := ⟨by (with_reducible repeat (first | refine zz ?_ _ | refine zj ?_ | refine zq ?_ _));refine blk_put (cs := #[.string ((kw l0 x10_1).f0),.int .i64 ((kw l0 x10_1).f1),.int .i64 ((kw l0 x10_1).f2),.int .i64 0]) ?_ 3 _ rfl;(with_reducible repeat (first | refine zz ?_ _ | refine zj ?_ | refine zq ?_ _));refine blk_put (cs := #[.string ((kw l0 x10_1).f0),.int .i64 ((kw l0 x10_1).f1),.int .i64 0,.int .i64 0]) ?_ 2 _ rfl;(with_reducible repeat (first | refine zz ?_ _ | refine zj ?_ | refine zq ?_ _));refine blk_put (cs := #[.string ((kw l0 x10_1).f0),.int .i64 0,.int .i64 0,.int .i64 0]) ?_ 1 _ rfl;(with_reducible repeat (first | refine zz ?_ _ | refine zj ?_ | refine zq ?_ _));refine blk_put (cs := #[.string (⟨#[]⟩ : ByteArray),.int .i64 0,.int .i64 0,.int .i64 0]) ?_ 0 _ rfl;(with_reducible repeat (first | refine zz ?_ _ | refine zj ?_ | refine zq ?_ _));exact BK102.out⟩
             have n1_ : qq (Below w.heap.size w ((((w55.setCell ⟨gb102,0,none⟩ (.string ((kw l0 x10_1).f0))).setCell ⟨gb102,1,none⟩ (.int .i64 ((kw l0 x10_1).f1))).setCell ⟨gb102,2,none⟩ (.int .i64 ((kw l0 x10_1).f2))).setCell ⟨gb102,3,none⟩ (.int .i64 ((kw l0 x10_1).f3)))) := ⟨by repeat (first | (with_reducible first | exact HB.out | apply qj | apply qz | apply qk | refine qx ?_ GE102.out) | exact HB.out)⟩
             (try clear BK102)
             (try clear HB)
             generalize ((((w55.setCell ⟨gb102,0,none⟩ (.string ((kw l0 x10_1).f0))).setCell ⟨gb102,1,none⟩ (.int .i64 ((kw l0 x10_1).f1))).setCell ⟨gb102,2,none⟩ (.int .i64 ((kw l0 x10_1).f2))).setCell ⟨gb102,3,none⟩ (.int .i64 ((kw l0 x10_1).f3))) = w57 at n0_ n1_ ⊢
             have BK102 := n0_
             have HB := n1_
             clear n0_ n1_
             have hS_ := (show (fun w' => w'.cell? ⟨gb102,0,none⟩ = some (.string ((kw l0 x10_1).f0)) ∧ w'.cell? ⟨gb102,1,none⟩ = some (.int .i64 ((kw l0 x10_1).f1)) ∧ w'.cell? ⟨gb102,2,none⟩ = some (.int .i64 ((kw l0 x10_1).f2)) ∧ w'.cell? ⟨gb102,3,none⟩ = some (.int .i64 ((kw l0 x10_1).f3))) (w57) from ⟨(qw BK102.out 0).trans rfl,(qw BK102.out 1).trans rfl,(qw BK102.out 2).trans rfl,(qw BK102.out 3).trans rfl⟩)
             obtain ⟨hS0_,hS1_,hS2_,hS3_⟩ := hS_
             go_quiet ((first | (go_at_call 40;exact Calls.quiet_of ((vk.calls k1 ((kw l0 x10_1).f0) true _ A6.out).mono fun _ _ h => ⟨h.1,h.2.out⟩)) | (go_at_call 41;exact Calls.quiet_of ((vv.calls k1 ((kw l0 x10_1).f1) true _ A42.out).mono fun _ _ h => ⟨h.1,h.2.out⟩))))
             clear hS0_ hS1_ hS2_ hS3_
             have n0_ := qq.mk (zz BK102.out nq)
             have n1_ := qq.mk (qz HB.out nq)
             clear BK102
             clear HB
             have BK102 := n0_
             have HB := n1_
             clear n0_ n1_
             generalize World.drewN w57 nq = w58 at BK102 HB ⊢
             try go_wp2
             go_ret
             exact ⟨by first | rfl | (simp [*,jk,jj] <;> rfl),by repeat (first | (with_reducible first | exact HB.out | apply qj | apply qz | apply qk | refine qx ?_ GE102.out) | exact HB.out)⟩
            ·rw [if_neg c54] at H
             have c54b0 : decide (100000000000 < ((kw l0 x10_1).f3)) = false := decide_eq_false c54
             clear c54
             have H' := qq.mk H
             clear H
             have p101 : 0 ≤ (x10_1 : Int) := of_decide_eq_true (by assumption)
             have q101 : x10_1 < (l0.length : Int) := of_decide_eq_true (by assumption)
             obtain ⟨ad101,e101,hx101_0,hx101_1,hx101_2,hx101_3⟩ := at_T53 HR0.out x10_1 p101 q101
             cases e101
             replace hx101_0 := (HB.out.cell (World.block_lt_of_cell? w _ hx101_0)).trans hx101_0
             replace hx101_1 := (HB.out.cell (World.block_lt_of_cell? w _ hx101_1)).trans hx101_1
             replace hx101_2 := (HB.out.cell (World.block_lt_of_cell? w _ hx101_2)).trans hx101_2
             replace hx101_3 := (HB.out.cell (World.block_lt_of_cell? w _ hx101_3)).trans hx101_3
             replace p101 := eq_true p101
             replace q101 := eq_true q101
             try go_wp2_with (first | ((with_reducible refine gate_dst (N := 4) rfl ?_);refine box_event ?hg (N := 4) ?hd (cs := #[.string (⟨#[]⟩ : ByteArray),.int .i64 0,.int .i64 0,.int .i64 0]) (t := 53) ?hr ?_;(case hd => rfl);(case hg => rfl);(case hr => first | (go_simp;done) | (go_simp;rfl));intro gb102 hg w59 hbox hb;have n0_ := qq.mk (zv (by repeat (first | (with_reducible first | exact HB.out | apply qj | apply qz | apply qk) | exact HB.out)) hb);have n1_ := qq.mk (hbox);have n2_ := qq.mk ((by rw [hg];exact (zw (by repeat (first | (with_reducible first | exact HB.out | apply qj | apply qz | apply qk) | exact HB.out))) : w.heap.size ≤ gb102));have n3_ := qq.mk ((by rw [hg];exact (zw (by repeat (first | (with_reducible first | exact HB.out | apply qj | apply qz | apply qk) | exact HB.out))) : w.heap.size ≤ gb102));clear HB;have HB := n0_;have BK102 := n1_;have GW102 := n2_;have GE102 := n3_;clear n0_ n1_ n2_ n3_;clear hb hbox hg;have hcz60_0 : w59.cell? ⟨gb102,0,none⟩ = some (.string (⟨#[]⟩ : ByteArray)) := (qw BK102.out 0).trans rfl;have hcz60_1 : w59.cell? ⟨gb102,1,none⟩ = some (.int .i64 0) := (qw BK102.out 1).trans rfl;have hcz60_2 : w59.cell? ⟨gb102,2,none⟩ = some (.int .i64 0) := (qw BK102.out 2).trans rfl;have hcz60_3 : w59.cell? ⟨gb102,3,none⟩ = some (.int .i64 0) := (qw BK102.out 3).trans rfl;have hfz60_0 := qv BK102.out 0;have hfz60_1 := qv BK102.out 1;have hfz60_2 := qv BK102.out 2;have hfz60_3 := qv BK102.out 3))
             have n0_ : qq (((((w59.setCell ⟨gb102,0,none⟩ (.string ((kw l0 x10_1).f0))).setCell ⟨gb102,1,none⟩ (.int .i64 ((kw l0 x10_1).f1))).setCell ⟨gb102,2,none⟩ (.int .i64 ((kw l0 x10_1).f2))).setCell ⟨gb102,3,none⟩ (.int .i64 ((kw l0 x10_1).f3))).heap[gb102]? = some (.cells #[.string ((kw l0 x10_1).f0),.int .i64 ((kw l0 x10_1).f1),.int .i64 ((kw l0 x10_1).f2),.int .i64 ((kw l0 x10_1).f3)] 53 (0,0))) := ⟨by (with_reducible repeat (first | refine zz ?_ _ | refine zj ?_ | refine zq ?_ _));refine blk_put (cs := #[.string ((kw l0 x10_1).f0),.int .i64 ((kw l0 x10_1).f1),.int .i64 ((kw l0 x10_1).f2),.int .i64 0]) ?_ 3 _ rfl;(with_reducible repeat (first | refine zz ?_ _ | refine zj ?_ | refine zq ?_ _));refine blk_put (cs := #[.string ((kw l0 x10_1).f0),.int .i64 ((kw l0 x10_1).f1),.int .i64 0,.int .i64 0]) ?_ 2 _ rfl;(with_reducible repeat (first | refine zz ?_ _ | refine zj ?_ | refine zq ?_ _));refine blk_put (cs := #[.string ((kw l0 x10_1).f0),.int .i64 0,.int .i64 0,.int .i64 0]) ?_ 1 _ rfl;(with_reducible repeat (first | refine zz ?_ _ | refine zj ?_ | refine zq ?_ _));refine blk_put (cs := #[.string (⟨#[]⟩ : ByteArray),.int .i64 0,.int .i64 0,.int .i64 0]) ?_ 0 _ rfl;(with_reducible repeat (first | refine zz ?_ _ | refine zj ?_ | refine zq ?_ _));exact BK102.out⟩
             have n1_ : qq (Below w.heap.size w ((((w59.setCell ⟨gb102,0,none⟩ (.string ((kw l0 x10_1).f0))).setCell ⟨gb102,1,none⟩ (.int .i64 ((kw l0 x10_1).f1))).setCell ⟨gb102,2,none⟩ (.int .i64 ((kw l0 x10_1).f2))).setCell ⟨gb102,3,none⟩ (.int .i64 ((kw l0 x10_1).f3)))) := ⟨by repeat (first | (with_reducible first | exact HB.out | apply qj | apply qz | apply qk | refine qx ?_ GE102.out) | exact HB.out)⟩
             (try clear BK102)
             (try clear HB)
             generalize ((((w59.setCell ⟨gb102,0,none⟩ (.string ((kw l0 x10_1).f0))).setCell ⟨gb102,1,none⟩ (.int .i64 ((kw l0 x10_1).f1))).setCell ⟨gb102,2,none⟩ (.int .i64 ((kw l0 x10_1).f2))).setCell ⟨gb102,3,none⟩ (.int .i64 ((kw l0 x10_1).f3))) = w61 at n0_ n1_ ⊢
             have BK102 := n0_
             have HB := n1_
             clear n0_ n1_
             have hS_ := (show (fun w' => w'.cell? ⟨gb102,0,none⟩ = some (.string ((kw l0 x10_1).f0)) ∧ w'.cell? ⟨gb102,1,none⟩ = some (.int .i64 ((kw l0 x10_1).f1)) ∧ w'.cell? ⟨gb102,2,none⟩ = some (.int .i64 ((kw l0 x10_1).f2)) ∧ w'.cell? ⟨gb102,3,none⟩ = some (.int .i64 ((kw l0 x10_1).f3))) (w61) from ⟨(qw BK102.out 0).trans rfl,(qw BK102.out 1).trans rfl,(qw BK102.out 2).trans rfl,(qw BK102.out 3).trans rfl⟩)
             obtain ⟨hS0_,hS1_,hS2_,hS3_⟩ := hS_
             go_quiet ((first | (go_at_call 40;exact Calls.quiet_of ((vk.calls k1 ((kw l0 x10_1).f0) true _ A6.out).mono fun _ _ h => ⟨h.1,h.2.out⟩)) | (go_at_call 41;exact Calls.quiet_of ((vv.calls k1 ((kw l0 x10_1).f1) true _ A42.out).mono fun _ _ h => ⟨h.1,h.2.out⟩))))
             clear hS0_ hS1_ hS2_ hS3_
             have n0_ := qq.mk (zz BK102.out nq)
             have n1_ := qq.mk (qz HB.out nq)
             clear BK102
             clear HB
             have BK102 := n0_
             have HB := n1_
             clear n0_ n1_
             generalize World.drewN w61 nq = w62 at BK102 HB ⊢
             try go_wp2
             go_roundg k1
             case measure => have := HK1.out;omega
             case rel => exact ⟨(wrap64 (x10_1 + 1)),(by first | rfl | (simp;done) | (simp [*];done)),H',⟨by have := HK1.out;omega⟩,⟨by repeat (first | (with_reducible first | exact HB.out | apply qj | apply qz | apply qk | refine qx ?_ GE102.out) | exact HB.out)⟩⟩
         ·replace c43 := Bool.eq_false_iff.mpr c43
          subst c43
          have H1 : (some false) = some r := by rw [if_neg (show ¬ (false = true) by decide)] at H;exact H
          clear H
          have H := H1
          clear H1
          obtain rfl := Option.some.inj H
          have p101 : 0 ≤ (x10_1 : Int) := of_decide_eq_true (by assumption)
          have q101 : x10_1 < (l0.length : Int) := of_decide_eq_true (by assumption)
          obtain ⟨ad101,e101,hx101_0,hx101_1,hx101_2,hx101_3⟩ := at_T53 HR0.out x10_1 p101 q101
          cases e101
          replace hx101_0 := (HB.out.cell (World.block_lt_of_cell? w _ hx101_0)).trans hx101_0
          replace hx101_1 := (HB.out.cell (World.block_lt_of_cell? w _ hx101_1)).trans hx101_1
          replace hx101_2 := (HB.out.cell (World.block_lt_of_cell? w _ hx101_2)).trans hx101_2
          replace hx101_3 := (HB.out.cell (World.block_lt_of_cell? w _ hx101_3)).trans hx101_3
          replace p101 := eq_true p101
          replace q101 := eq_true q101
          try go_wp2_with (first | ((with_reducible refine gate_dst (N := 4) rfl ?_);refine box_event ?hg (N := 4) ?hd (cs := #[.string (⟨#[]⟩ : ByteArray),.int .i64 0,.int .i64 0,.int .i64 0]) (t := 53) ?hr ?_;(case hd => rfl);(case hg => rfl);(case hr => first | (go_simp;done) | (go_simp;rfl));intro gb102 hg w63 hbox hb;have n0_ := qq.mk (zv (by repeat (first | (with_reducible first | exact HB.out | apply qj | apply qz | apply qk) | exact HB.out)) hb);have n1_ := qq.mk (hbox);have n2_ := qq.mk ((by rw [hg];exact (zw (by repeat (first | (with_reducible first | exact HB.out | apply qj | apply qz | apply qk) | exact HB.out))) : w.heap.size ≤ gb102));have n3_ := qq.mk ((by rw [hg];exact (zw (by repeat (first | (with_reducible first | exact HB.out | apply qj | apply qz | apply qk) | exact HB.out))) : w.heap.size ≤ gb102));clear HB;have HB := n0_;have BK102 := n1_;have GW102 := n2_;have GE102 := n3_;clear n0_ n1_ n2_ n3_;clear hb hbox hg;have hcz64_0 : w63.cell? ⟨gb102,0,none⟩ = some (.string (⟨#[]⟩ : ByteArray)) := (qw BK102.out 0).trans rfl;have hcz64_1 : w63.cell? ⟨gb102,1,none⟩ = some (.int .i64 0) := (qw BK102.out 1).trans rfl;have hcz64_2 : w63.cell? ⟨gb102,2,none⟩ = some (.int .i64 0) := (qw BK102.out 2).trans rfl;have hcz64_3 : w63.cell? ⟨gb102,3,none⟩ = some (.int .i64 0) := (qw BK102.out 3).trans rfl;have hfz64_0 := qv BK102.out 0;have hfz64_1 := qv BK102.out 1;have hfz64_2 := qv BK102.out 2;have hfz64_3 := qv BK102.out 3))
          have n0_ : qq (((((w63.setCell ⟨gb102,0,none⟩ (.string ((kw l0 x10_1).f0))).setCell ⟨gb102,1,none⟩ (.int .i64 ((kw l0 x10_1).f1))).setCell ⟨gb102,2,none⟩ (.int .i64 ((kw l0 x10_1).f2))).setCell ⟨gb102,3,none⟩ (.int .i64 ((kw l0 x10_1).f3))).heap[gb102]? = some (.cells #[.string ((kw l0 x10_1).f0),.int .i64 ((kw l0 x10_1).f1),.int .i64 ((kw l0 x10_1).f2),.int .i64 ((kw l0 x10_1).f3)] 53 (0,0))) := ⟨by (with_reducible repeat (first | refine zz ?_ _ | refine zj ?_ | refine zq ?_ _));refine blk_put (cs := #[.string ((kw l0 x10_1).f0),.int .i64 ((kw l0 x10_1).f1),.int .i64 ((kw l0 x10_1).f2),.int .i64 0]) ?_ 3 _ rfl;(with_reducible repeat (first | refine zz ?_ _ | refine zj ?_ | refine zq ?_ _));refine blk_put (cs := #[.string ((kw l0 x10_1).f0),.int .i64 ((kw l0 x10_1).f1),.int .i64 0,.int .i64 0]) ?_ 2 _ rfl;(with_reducible repeat (first | refine zz ?_ _ | refine zj ?_ | refine zq ?_ _));refine blk_put (cs := #[.string ((kw l0 x10_1).f0),.int .i64 0,.int .i64 0,.int .i64 0]) ?_ 1 _ rfl;(with_reducible repeat (first | refine zz ?_ _ | refine zj ?_ | refine zq ?_ _));refine blk_put (cs := #[.string (⟨#[]⟩ : ByteArray),.int .i64 0,.int .i64 0,.int .i64 0]) ?_ 0 _ rfl;(with_reducible repeat (first | refine zz ?_ _ | refine zj ?_ | refine zq ?_ _));exact BK102.out⟩
          have n1_ : qq (Below w.heap.size w ((((w63.setCell ⟨gb102,0,none⟩ (.string ((kw l0 x10_1).f0))).setCell ⟨gb102,1,none⟩ (.int .i64 ((kw l0 x10_1).f1))).setCell ⟨gb102,2,none⟩ (.int .i64 ((kw l0 x10_1).f2))).setCell ⟨gb102,3,none⟩ (.int .i64 ((kw l0 x10_1).f3)))) := ⟨by repeat (first | (with_reducible first | exact HB.out | apply qj | apply qz | apply qk | refine qx ?_ GE102.out) | exact HB.out)⟩
          (try clear BK102)
          (try clear HB)
          generalize ((((w63.setCell ⟨gb102,0,none⟩ (.string ((kw l0 x10_1).f0))).setCell ⟨gb102,1,none⟩ (.int .i64 ((kw l0 x10_1).f1))).setCell ⟨gb102,2,none⟩ (.int .i64 ((kw l0 x10_1).f2))).setCell ⟨gb102,3,none⟩ (.int .i64 ((kw l0 x10_1).f3))) = w65 at n0_ n1_ ⊢
          have BK102 := n0_
          have HB := n1_
          clear n0_ n1_
          have hS_ := (show (fun w' => w'.cell? ⟨gb102,0,none⟩ = some (.string ((kw l0 x10_1).f0)) ∧ w'.cell? ⟨gb102,1,none⟩ = some (.int .i64 ((kw l0 x10_1).f1)) ∧ w'.cell? ⟨gb102,2,none⟩ = some (.int .i64 ((kw l0 x10_1).f2)) ∧ w'.cell? ⟨gb102,3,none⟩ = some (.int .i64 ((kw l0 x10_1).f3))) (w65) from ⟨(qw BK102.out 0).trans rfl,(qw BK102.out 1).trans rfl,(qw BK102.out 2).trans rfl,(qw BK102.out 3).trans rfl⟩)
          obtain ⟨hS0_,hS1_,hS2_,hS3_⟩ := hS_
          go_quiet ((first | (go_at_call 40;exact Calls.quiet_of ((vk.calls k1 ((kw l0 x10_1).f0) true _ A6.out).mono fun _ _ h => ⟨h.1,h.2.out⟩)) | (go_at_call 41;exact Calls.quiet_of ((vv.calls k1 ((kw l0 x10_1).f1) false _ A42.out).mono fun _ _ h => ⟨h.1,h.2.out⟩))))
          clear hS0_ hS1_ hS2_ hS3_
          have n0_ := qq.mk (zz BK102.out nq)
          have n1_ := qq.mk (qz HB.out nq)
          clear BK102
          clear HB
          have BK102 := n0_
          have HB := n1_
          clear n0_ n1_
          generalize World.drewN w65 nq = w66 at BK102 HB ⊢
          try go_wp2
          go_ret
          exact ⟨by first | rfl | (simp [*,jk,jj] <;> rfl),by repeat (first | (with_reducible first | exact HB.out | apply qj | apply qz | apply qk | refine qx ?_ GE102.out) | exact HB.out)⟩
       ·replace c7 := Bool.eq_false_iff.mpr c7
        subst c7
        have H1 : (some false) = some r := by rw [if_neg (show ¬ (false = true) by decide)] at H;exact H
        clear H
        have H := H1
        clear H1
        obtain rfl := Option.some.inj H
        have p101 : 0 ≤ (x10_1 : Int) := of_decide_eq_true (by assumption)
        have q101 : x10_1 < (l0.length : Int) := of_decide_eq_true (by assumption)
        obtain ⟨ad101,e101,hx101_0,hx101_1,hx101_2,hx101_3⟩ := at_T53 HR0.out x10_1 p101 q101
        cases e101
        replace hx101_0 := (HB.out.cell (World.block_lt_of_cell? w _ hx101_0)).trans hx101_0
        replace hx101_1 := (HB.out.cell (World.block_lt_of_cell? w _ hx101_1)).trans hx101_1
        replace hx101_2 := (HB.out.cell (World.block_lt_of_cell? w _ hx101_2)).trans hx101_2
        replace hx101_3 := (HB.out.cell (World.block_lt_of_cell? w _ hx101_3)).trans hx101_3
        replace p101 := eq_true p101
        replace q101 := eq_true q101
        try go_wp2_with (first | ((with_reducible refine gate_dst (N := 4) rfl ?_);refine box_event ?hg (N := 4) ?hd (cs := #[.string (⟨#[]⟩ : ByteArray),.int .i64 0,.int .i64 0,.int .i64 0]) (t := 53) ?hr ?_;(case hd => rfl);(case hg => rfl);(case hr => first | (go_simp;done) | (go_simp;rfl));intro gb102 hg w67 hbox hb;have n0_ := qq.mk (zv (by repeat (first | (with_reducible first | exact HB.out | apply qj | apply qz | apply qk) | exact HB.out)) hb);have n1_ := qq.mk (hbox);have n2_ := qq.mk ((by rw [hg];exact (zw (by repeat (first | (with_reducible first | exact HB.out | apply qj | apply qz | apply qk) | exact HB.out))) : w.heap.size ≤ gb102));have n3_ := qq.mk ((by rw [hg];exact (zw (by repeat (first | (with_reducible first | exact HB.out | apply qj | apply qz | apply qk) | exact HB.out))) : w.heap.size ≤ gb102));clear HB;have HB := n0_;have BK102 := n1_;have GW102 := n2_;have GE102 := n3_;clear n0_ n1_ n2_ n3_;clear hb hbox hg;have hcz68_0 : w67.cell? ⟨gb102,0,none⟩ = some (.string (⟨#[]⟩ : ByteArray)) := (qw BK102.out 0).trans rfl;have hcz68_1 : w67.cell? ⟨gb102,1,none⟩ = some (.int .i64 0) := (qw BK102.out 1).trans rfl;have hcz68_2 : w67.cell? ⟨gb102,2,none⟩ = some (.int .i64 0) := (qw BK102.out 2).trans rfl;have hcz68_3 : w67.cell? ⟨gb102,3,none⟩ = some (.int .i64 0) := (qw BK102.out 3).trans rfl;have hfz68_0 := qv BK102.out 0;have hfz68_1 := qv BK102.out 1;have hfz68_2 := qv BK102.out 2;have hfz68_3 := qv BK102.out 3))
        have n0_ : qq (((((w67.setCell ⟨gb102,0,none⟩ (.string ((kw l0 x10_1).f0))).setCell ⟨gb102,1,none⟩ (.int .i64 ((kw l0 x10_1).f1))).setCell ⟨gb102,2,none⟩ (.int .i64 ((kw l0 x10_1).f2))).setCell ⟨gb102,3,none⟩ (.int .i64 ((kw l0 x10_1).f3))).heap[gb102]? = some (.cells #[.string ((kw l0 x10_1).f0),.int .i64 ((kw l0 x10_1).f1),.int .i64 ((kw l0 x10_1).f2),.int .i64 ((kw l0 x10_1).f3)] 53 (0,0))) := ⟨by (with_reducible repeat (first | refine zz ?_ _ | refine zj ?_ | refine zq ?_ _));refine blk_put (cs := #[.string ((kw l0 x10_1).f0),.int .i64 ((kw l0 x10_1).f1),.int .i64 ((kw l0 x10_1).f2),.int .i64 0]) ?_ 3 _ rfl;(with_reducible repeat (first | refine zz ?_ _ | refine zj ?_ | refine zq ?_ _));refine blk_put (cs := #[.string ((kw l0 x10_1).f0),.int .i64 ((kw l0 x10_1).f1),.int .i64 0,.int .i64 0]) ?_ 2 _ rfl;(with_reducible repeat (first | refine zz ?_ _ | refine zj ?_ | refine zq ?_ _));refine blk_put (cs := #[.string ((kw l0 x10_1).f0),.int .i64 0,.int .i64 0,.int .i64 0]) ?_ 1 _ rfl;(with_reducible repeat (first | refine zz ?_ _ | refine zj ?_ | refine zq ?_ _));refine blk_put (cs := #[.string (⟨#[]⟩ : ByteArray),.int .i64 0,.int .i64 0,.int .i64 0]) ?_ 0 _ rfl;(with_reducible repeat (first | refine zz ?_ _ | refine zj ?_ | refine zq ?_ _));exact BK102.out⟩
        have n1_ : qq (Below w.heap.size w ((((w67.setCell ⟨gb102,0,none⟩ (.string ((kw l0 x10_1).f0))).setCell ⟨gb102,1,none⟩ (.int .i64 ((kw l0 x10_1).f1))).setCell ⟨gb102,2,none⟩ (.int .i64 ((kw l0 x10_1).f2))).setCell ⟨gb102,3,none⟩ (.int .i64 ((kw l0 x10_1).f3)))) := ⟨by repeat (first | (with_reducible first | exact HB.out | apply qj | apply qz | apply qk | refine qx ?_ GE102.out) | exact HB.out)⟩
        (try clear BK102)
        (try clear HB)
        generalize ((((w67.setCell ⟨gb102,0,none⟩ (.string ((kw l0 x10_1).f0))).setCell ⟨gb102,1,none⟩ (.int .i64 ((kw l0 x10_1).f1))).setCell ⟨gb102,2,none⟩ (.int .i64 ((kw l0 x10_1).f2))).setCell ⟨gb102,3,none⟩ (.int .i64 ((kw l0 x10_1).f3))) = w69 at n0_ n1_ ⊢
        have BK102 := n0_
        have HB := n1_
        clear n0_ n1_
        have hS_ := (show (fun w' => w'.cell? ⟨gb102,0,none⟩ = some (.string ((kw l0 x10_1).f0)) ∧ w'.cell? ⟨gb102,1,none⟩ = some (.int .i64 ((kw l0 x10_1).f1)) ∧ w'.cell? ⟨gb102,2,none⟩ = some (.int .i64 ((kw l0 x10_1).f2)) ∧ w'.cell? ⟨gb102,3,none⟩ = some (.int .i64 ((kw l0 x10_1).f3))) (w69) from ⟨(qw BK102.out 0).trans rfl,(qw BK102.out 1).trans rfl,(qw BK102.out 2).trans rfl,(qw BK102.out 3).trans rfl⟩)
        obtain ⟨hS0_,hS1_,hS2_,hS3_⟩ := hS_
        go_quiet ((first | (go_at_call 40;exact Calls.quiet_of ((vk.calls k1 ((kw l0 x10_1).f0) false _ A6.out).mono fun _ _ h => ⟨h.1,h.2.out⟩))))
        clear hS0_ hS1_ hS2_ hS3_
        have n0_ := qq.mk (zz BK102.out nq)
        have n1_ := qq.mk (qz HB.out nq)
        clear BK102
        clear HB
        have BK102 := n0_
        have HB := n1_
        clear n0_ n1_
        generalize World.drewN w69 nq = w70 at BK102 HB ⊢
        try go_wp2
        go_ret
        exact ⟨by first | rfl | (simp [*,jk,jj] <;> rfl),by repeat (first | (with_reducible first | exact HB.out | apply qj | apply qz | apply qk | refine qx ?_ GE102.out) | exact HB.out)⟩
      ·rw [if_neg c5] at H
       exact absurd H (by simp)
     ·rw [if_neg c4] at H
      exact absurd H (by simp)
    ·rw [if_neg c3] at H
     have c3b0 : decide (x10_1 < (l0.length : Int)) = false := decide_eq_false c3
     clear c3
     obtain rfl := Option.some.inj H
     go_wp2
     go_ret
     exact ⟨by first | rfl | (simp [*,jk,jj] <;> rfl),by repeat (first | (with_reducible first | exact HB.out | apply qj | apply qz | apply qk) | exact HB.out)⟩
theorem setCell_twice (w : World) (b o : Nat) (u v : Value) : (w.setCell ⟨b,o,none⟩ u).setCell ⟨b,o,none⟩ v = w.setCell ⟨b,o,none⟩ v := by
 rw [Go.Sort.setCell_eq,Go.Sort.setCell_eq,Go.Sort.setCell_eq,Go.Sort.mapBlock_mapBlock]
 congr 1
 funext c
 exact Array.ext_getElem? fun i => by simp only [Array.getElem?_setIfInBounds];by_cases h : o = i <;> simp [h]
attribute [local go_sem] setCell_twice
mutual
def vq.j0 : Nat → List (S53) → Int → Int → Bool → ByteArray → Int → Int → Int → Option ((List (S53)))
 | 0,_,_,_,_,_,_,_,_ => none
 | k + 1,x0,x2,x3,x30,x102000,x102001,x102002,x102003 => if x30 = true then (some ([] : List (S53))) else (vq.l0 k x2 x3 (([(⟨x102000,x102001,x102002,x102003⟩ : S53)] : List (S53))) x0 (x0.length : Int) 0)
def vq.l0 : Nat → Int → Int → List (S53) → List (S53) → Int → Int → Option ((List (S53)))
 | 0,_,_,_,_,_,_ => none
 | k + 1,x2,x3,x9,x33,x34,x35 => if x35 < x34 then (if 0 ≤ x35 then (if x35 < (x33.length : Int) then (if ((kw x33 x35).f3) < x2 then (vq.l0 k x2 x3 x9 x33 x34 (wrap64 (x35 + 1))) else (if ((kw x33 x35).f2) > (wrap64 (x2 + x3)) then (vq.l0 k x2 x3 x9 x33 x34 (wrap64 (x35 + 1))) else (if x9.length < 3518437208883 then (vq.l0 k x2 x3 (x9 ++ [(⟨(kw x33 x35).f0,(kw x33 x35).f1,(kw x33 x35).f2,mn ((kw x33 x35).f3) (wrap64 (x2 + x3))⟩ : S53)]) x33 x34 (wrap64 (x35 + 1))) else (none)))) else (none)) else (none)) else ((sort_impl_RotateRing_1.f k x9).bind fun t111 => ((kx.f k t111).bind fun t112 => (if t112 = true then (some t111) else (some ([] : List (S53))))))
end
def vq.f (k : Nat) (l0 : List (S53)) (a1_0 : ByteArray) (a1_1 : Int) (a1_2 : Int) (a1_3 : Int) (a2 : Int) (a3 : Int) : Option ((List (S53))) := (kx.f k l0).bind fun t102 => (if t102 = true then (if a2 < 0 then (vq.j0 k l0 a2 a3 true a1_0 a1_1 a1_2 a1_3) else (if a2 > 100000000000 then (vq.j0 k l0 a2 a3 true a1_0 a1_1 a1_2 a1_3) else (if a3 < 0 then (vq.j0 k l0 a2 a3 true a1_0 a1_1 a1_2 a1_3) else (vq.j0 k l0 a2 a3 (decide (a3 > 100000000000)) a1_0 a1_1 a1_2 a1_3)))) else (vq.j0 k l0 a2 a3 true a1_0 a1_1 a1_2 a1_3))
set_option maxHeartbeats 8000000 in
set_option maxRecDepth 100000 in
theorem vq.calls (k : Nat) (A0 : Option Addr) (c0 : Nat) (l0 : List (S53)) (a1_0 : ByteArray) (a1_1 : Int) (a1_2 : Int) (a1_3 : Int) (a2 : Int) (a3 : Int) (r : List (S53)) (w : World) (hr0 : Kd.C k53 w A0 l0.length l0) (hc0 : l0.length ≤ c0) (h : vq.f k l0 a1_0 a1_1 a1_2 a1_3 a2 a3 = some r) :
  Calls Try.prog 26 #[.slice A0 l0.length c0,.agg #[.string a1_0,.int .i64 a1_1,.int .i64 a1_2,.int .i64 a1_3],.int .i64 a2,.int .i64 a3] w fun e w' => ∃ v0_ : Value,e = .returned (v0_) ∧ Kd.R k53 53 w' w.heap.size (fun _ => True) v0_ r ∧ Below w.heap.size w w' := by
 have hu53 := Try.underlying53
 have HR0 := qq.mk hr0
 have HC0 := qq.mk hc0
 clear hr0 hc0
 have HB := qq.mk (Below.refl w.heap.size w)
 have H : ((kx.f k l0).bind fun t102 => (if t102 = true then (if a2 < 0 then (vq.j0 k l0 a2 a3 true a1_0 a1_1 a1_2 a1_3) else (if a2 > 100000000000 then (vq.j0 k l0 a2 a3 true a1_0 a1_1 a1_2 a1_3) else (if a3 < 0 then (vq.j0 k l0 a2 a3 true a1_0 a1_1 a1_2 a1_3) else (vq.j0 k l0 a2 a3 (decide (a3 > 100000000000)) a1_0 a1_1 a1_2 a1_3)))) else (vq.j0 k l0 a2 a3 true a1_0 a1_1 a1_2 a1_3))) = some r := h
 clear h
 have HC5 := qq.mk H
 clear H
 go_enter Try.func26,Try.ntmps26
 go_upto_region 1 with (first | ((with_reducible refine gate_dst (N := 5) rfl ?_);refine box_event ?hg (N := 5) ?hd (cs := #[.string a1_0,.int .i64 a1_1,.int .i64 a1_2,.int .i64 a1_3]) (t := 53) ?hr ?_;(case hd => rfl);(case hg => rfl);(case hr => first | (go_simp;done) | (go_simp;rfl));intro gb101 hg w6 hbox hb;have n0_ := qq.mk (zv (by repeat (first | (with_reducible first | exact HB.out | apply qj | apply qz | apply qk) | exact HB.out)) hb);have n1_ := qq.mk (hbox);have n2_ := qq.mk ((by rw [hg];exact (zw (by repeat (first | (with_reducible first | exact HB.out | apply qj | apply qz | apply qk) | exact HB.out))) : w.heap.size ≤ gb101));have n3_ := qq.mk ((by rw [hg];exact (zw (by repeat (first | (with_reducible first | exact HB.out | apply qj | apply qz | apply qk) | exact HB.out))) : w.heap.size ≤ gb101));clear HB;have HB := n0_;have BK101 := n1_;have GW101 := n2_;have GE101 := n3_;clear n0_ n1_ n2_ n3_;clear hb hbox hg))
 (try simp only [Act.put,List.setIfInBounds_toArray,List.set_cons_zero,List.set_cons_succ])
 go_cut [30] (fun v30 wc => ∃ (kq : Nat) (x30_4 : Bool),v30 = .bool x30_4 ∧ qq (vq.j0 kq l0 a2 a3 x30_4 a1_0 a1_1 a1_2 a1_3 = some r) ∧ qq (kq ≤ k) ∧ qq (wc.heap[gb101]? = some (.cells #[.string a1_0,.int .i64 a1_1,.int .i64 a1_2,.int .i64 a1_3] 53 (0,0))) ∧ qq (Below w.heap.size w wc))
 case first =>
  have H := HC5.out
  clear HC5
  replace H := Option.bind_eq_some_iff.mp H
  obtain ⟨t102,A70,H⟩ := H
  replace H : (if t102 = true then (if a2 < 0 then (vq.j0 k l0 a2 a3 true a1_0 a1_1 a1_2 a1_3) else (if a2 > 100000000000 then (vq.j0 k l0 a2 a3 true a1_0 a1_1 a1_2 a1_3) else (if a3 < 0 then (vq.j0 k l0 a2 a3 true a1_0 a1_1 a1_2 a1_3) else (vq.j0 k l0 a2 a3 (decide (a3 > 100000000000)) a1_0 a1_1 a1_2 a1_3)))) else (vq.j0 k l0 a2 a3 true a1_0 a1_1 a1_2 a1_3)) = some r := H
  have A7 := qq.mk A70
  clear A70
  by_cases c8 : t102 = true
  ·subst c8
   have H1 : (if a2 < 0 then (vq.j0 k l0 a2 a3 true a1_0 a1_1 a1_2 a1_3) else (if a2 > 100000000000 then (vq.j0 k l0 a2 a3 true a1_0 a1_1 a1_2 a1_3) else (if a3 < 0 then (vq.j0 k l0 a2 a3 true a1_0 a1_1 a1_2 a1_3) else (vq.j0 k l0 a2 a3 (decide (a3 > 100000000000)) a1_0 a1_1 a1_2 a1_3)))) = some r := by rw [if_pos rfl] at H;exact H
   clear H
   have H := H1
   clear H1
   by_cases c9 : a2 < 0
   ·rw [if_pos c9] at H
    have c9b0 : decide (a2 < 0) = true := decide_eq_true c9
    clear c9
    (first | rw [c9b0] | (simp only [i64_w,i32_w];rw [c9b0]) | skip)
    have H' := qq.mk H
    clear H
    go_wp2_with (first | ((with_reducible refine jv (f := 16) rfl ?_);refine goesL_ (some 13) rfl rfl Try.func16 (by kernel_rfl) rfl #[.slice A0 l0.length c0] rfl (by (try simp only [List.map_toArray,List.map_cons,List.map_nil]);first | done | rfl | (simp only [List.length_drop,List.length_take];rfl)) ?_;(with_reducible refine (kx.calls k _ _ l0 true _ ?side1 ?side2 A7.out).mono ?_);(case side1 => repeat (first | exact (Kd.C_below HR0.out HB.out) | (with_reducible refine Kd.C_alloc ?_ _) | (with_reducible refine Kd.C_drewN ?_ _) | (with_reducible refine Kd.C_drew ?_)));(case side2 => exact HC0.out);rintro e w10 ⟨rfl,hb⟩;refine ⟨_,rfl,?_⟩;have n0_ := qq.mk (kj (g := gb101) (o := .cells #[.string a1_0,.int .i64 a1_1,.int .i64 a1_2,.int .i64 a1_3] 53 (0,0)) (by (with_reducible repeat (first | refine zz ?_ _ | refine zj ?_ | refine zq ?_ _));exact BK101.out) hb);have n1_ := qq.mk (zv (by repeat (first | (with_reducible first | exact HB.out | apply qj | apply qz | apply qk | refine qx ?_ GE101.out) | exact HB.out)) hb);clear BK101;clear HB;have BK101 := n0_;have HB := n1_;clear n0_ n1_;(try clear hb);(try clear hb2);(try clear hk);(try clear hi)))
    go_meet
    case rel => exact ⟨_,(true),(by first | rfl | (simp;done) | (simp [*];done)),H',⟨by first | omega | exact Nat.le_refl _⟩,⟨by (with_reducible repeat (first | refine zz ?_ _ | refine zj ?_ | refine zq ?_ _));exact BK101.out⟩,⟨by repeat (first | (with_reducible first | exact HB.out | apply qj | apply qz | apply qk | refine qx ?_ GE101.out) | exact HB.out)⟩⟩
   ·rw [if_neg c9] at H
    have c9b0 : decide (a2 < 0) = false := decide_eq_false c9
    clear c9
    (first | rw [c9b0] | (simp only [i64_w,i32_w];rw [c9b0]) | skip)
    by_cases c11 : a2 > 100000000000
    ·rw [if_pos c11] at H
     have c11b0 : decide (100000000000 < a2) = true := decide_eq_true c11
     clear c11
     have H' := qq.mk H
     clear H
     go_wp2_with (first | ((with_reducible refine jv (f := 16) rfl ?_);refine goesL_ (some 13) rfl rfl Try.func16 (by kernel_rfl) rfl #[.slice A0 l0.length c0] rfl (by (try simp only [List.map_toArray,List.map_cons,List.map_nil]);first | done | rfl | (simp only [List.length_drop,List.length_take];rfl)) ?_;(with_reducible refine (kx.calls k _ _ l0 true _ ?side1 ?side2 A7.out).mono ?_);(case side1 => repeat (first | exact (Kd.C_below HR0.out HB.out) | (with_reducible refine Kd.C_alloc ?_ _) | (with_reducible refine Kd.C_drewN ?_ _) | (with_reducible refine Kd.C_drew ?_)));(case side2 => exact HC0.out);rintro e w12 ⟨rfl,hb⟩;refine ⟨_,rfl,?_⟩;have n0_ := qq.mk (kj (g := gb101) (o := .cells #[.string a1_0,.int .i64 a1_1,.int .i64 a1_2,.int .i64 a1_3] 53 (0,0)) (by (with_reducible repeat (first | refine zz ?_ _ | refine zj ?_ | refine zq ?_ _));exact BK101.out) hb);have n1_ := qq.mk (zv (by repeat (first | (with_reducible first | exact HB.out | apply qj | apply qz | apply qk | refine qx ?_ GE101.out) | exact HB.out)) hb);clear BK101;clear HB;have BK101 := n0_;have HB := n1_;clear n0_ n1_;(try clear hb);(try clear hb2);(try clear hk);(try clear hi)))
     go_meet
     case rel => exact ⟨_,(true),(by first | rfl | (simp;done) | (simp [*];done)),H',⟨by first | omega | exact Nat.le_refl _⟩,⟨by (with_reducible repeat (first | refine zz ?_ _ | refine zj ?_ | refine zq ?_ _));exact BK101.out⟩,⟨by repeat (first | (with_reducible first | exact HB.out | apply qj | apply qz | apply qk | refine qx ?_ GE101.out) | exact HB.out)⟩⟩
    ·rw [if_neg c11] at H
     have c11b0 : decide (100000000000 < a2) = false := decide_eq_false c11
     clear c11
     by_cases c13 : a3 < 0
     ·rw [if_pos c13] at H
      have c13b0 : decide (a3 < 0) = true := decide_eq_true c13
      clear c13
      have H' := qq.mk H
      clear H
      go_wp2_with (first | ((with_reducible refine jv (f := 16) rfl ?_);refine goesL_ (some 13) rfl rfl Try.func16 (by kernel_rfl) rfl #[.slice A0 l0.length c0] rfl (by (try simp only [List.map_toArray,List.map_cons,List.map_nil]);first | done | rfl | (simp only [List.length_drop,List.length_take];rfl)) ?_;(with_reducible refine (kx.calls k _ _ l0 true _ ?side1 ?side2 A7.out).mono ?_);(case side1 => repeat (first | exact (Kd.C_below HR0.out HB.out) | (with_reducible refine Kd.C_alloc ?_ _) | (with_reducible refine Kd.C_drewN ?_ _) | (with_reducible refine Kd.C_drew ?_)));(case side2 => exact HC0.out);rintro e w14 ⟨rfl,hb⟩;refine ⟨_,rfl,?_⟩;have n0_ := qq.mk (kj (g := gb101) (o := .cells #[.string a1_0,.int .i64 a1_1,.int .i64 a1_2,.int .i64 a1_3] 53 (0,0)) (by (with_reducible repeat (first | refine zz ?_ _ | refine zj ?_ | refine zq ?_ _));exact BK101.out) hb);have n1_ := qq.mk (zv (by repeat (first | (with_reducible first | exact HB.out | apply qj | apply qz | apply qk | refine qx ?_ GE101.out) | exact HB.out)) hb);clear BK101;clear HB;have BK101 := n0_;have HB := n1_;clear n0_ n1_;(try clear hb);(try clear hb2);(try clear hk);(try clear hi)))
      go_meet
      case rel => exact ⟨_,(true),(by first | rfl | (simp;done) | (simp [*];done)),H',⟨by first | omega | exact Nat.le_refl _⟩,⟨by (with_reducible repeat (first | refine zz ?_ _ | refine zj ?_ | refine zq ?_ _));exact BK101.out⟩,⟨by repeat (first | (with_reducible first | exact HB.out | apply qj | apply qz | apply qk | refine qx ?_ GE101.out) | exact HB.out)⟩⟩
     ·rw [if_neg c13] at H
      have c13b0 : decide (a3 < 0) = false := decide_eq_false c13
      clear c13
      have H' := qq.mk H
      clear H
      go_wp2_with (first | ((with_reducible refine jv (f := 16) rfl ?_);refine goesL_ (some 13) rfl rfl Try.func16 (by kernel_rfl) rfl #[.slice A0 l0.length c0] rfl (by (try simp only [List.map_toArray,List.map_cons,List.map_nil]);first | done | rfl | (simp only [List.length_drop,List.length_take];rfl)) ?_;(with_reducible refine (kx.calls k _ _ l0 true _ ?side1 ?side2 A7.out).mono ?_);(case side1 => repeat (first | exact (Kd.C_below HR0.out HB.out) | (with_reducible refine Kd.C_alloc ?_ _) | (with_reducible refine Kd.C_drewN ?_ _) | (with_reducible refine Kd.C_drew ?_)));(case side2 => exact HC0.out);rintro e w15 ⟨rfl,hb⟩;refine ⟨_,rfl,?_⟩;have n0_ := qq.mk (kj (g := gb101) (o := .cells #[.string a1_0,.int .i64 a1_1,.int .i64 a1_2,.int .i64 a1_3] 53 (0,0)) (by (with_reducible repeat (first | refine zz ?_ _ | refine zj ?_ | refine zq ?_ _));exact BK101.out) hb);have n1_ := qq.mk (zv (by repeat (first | (with_reducible first | exact HB.out | apply qj | apply qz | apply qk | refine qx ?_ GE101.out) | exact HB.out)) hb);clear BK101;clear HB;have BK101 := n0_;have HB := n1_;clear n0_ n1_;(try clear hb);(try clear hb2);(try clear hk);(try clear hi)))
      go_meet
      case rel => exact ⟨_,(decide (a3 > 100000000000)),(by first | rfl | (simp;done) | (simp [*];done)),H',⟨by first | omega | exact Nat.le_refl _⟩,⟨by (with_reducible repeat (first | refine zz ?_ _ | refine zj ?_ | refine zq ?_ _));exact BK101.out⟩,⟨by repeat (first | (with_reducible first | exact HB.out | apply qj | apply qz | apply qk | refine qx ?_ GE101.out) | exact HB.out)⟩⟩
  ·replace c8 := Bool.eq_false_iff.mpr c8
   subst c8
   have H1 : (vq.j0 k l0 a2 a3 true a1_0 a1_1 a1_2 a1_3) = some r := by rw [if_neg (show ¬ (false = true) by decide)] at H;exact H
   clear H
   have H := H1
   clear H1
   have H' := qq.mk H
   clear H
   go_wp2_with (first | ((with_reducible refine jv (f := 16) rfl ?_);refine goesL_ (some 13) rfl rfl Try.func16 (by kernel_rfl) rfl #[.slice A0 l0.length c0] rfl (by (try simp only [List.map_toArray,List.map_cons,List.map_nil]);first | done | rfl | (simp only [List.length_drop,List.length_take];rfl)) ?_;(with_reducible refine (kx.calls k _ _ l0 false _ ?side1 ?side2 A7.out).mono ?_);(case side1 => repeat (first | exact (Kd.C_below HR0.out HB.out) | (with_reducible refine Kd.C_alloc ?_ _) | (with_reducible refine Kd.C_drewN ?_ _) | (with_reducible refine Kd.C_drew ?_)));(case side2 => exact HC0.out);rintro e w16 ⟨rfl,hb⟩;refine ⟨_,rfl,?_⟩;have n0_ := qq.mk (kj (g := gb101) (o := .cells #[.string a1_0,.int .i64 a1_1,.int .i64 a1_2,.int .i64 a1_3] 53 (0,0)) (by (with_reducible repeat (first | refine zz ?_ _ | refine zj ?_ | refine zq ?_ _));exact BK101.out) hb);have n1_ := qq.mk (zv (by repeat (first | (with_reducible first | exact HB.out | apply qj | apply qz | apply qk | refine qx ?_ GE101.out) | exact HB.out)) hb);clear BK101;clear HB;have BK101 := n0_;have HB := n1_;clear n0_ n1_;(try clear hb);(try clear hb2);(try clear hk);(try clear hi)))
   go_meet
   case rel => exact ⟨_,(true),(by first | rfl | (simp;done) | (simp [*];done)),H',⟨by first | omega | exact Nat.le_refl _⟩,⟨by (with_reducible repeat (first | refine zz ?_ _ | refine zj ?_ | refine zq ?_ _));exact BK101.out⟩,⟨by repeat (first | (with_reducible first | exact HB.out | apply qj | apply qz | apply qk | refine qx ?_ GE101.out) | exact HB.out)⟩⟩
 case rest =>
  clear HC5
  try clear c1
  try clear c2
  try clear p2
  try clear c8
  try clear c9
  try clear c9b0
  try clear c11
  try clear c11b0
  try clear c13
  try clear c13b0
  try clear c16
  obtain ⟨kq,x30_4,rfl,HA,HJ4,BK101,HB⟩ := hcut
  cases kq with
  | zero => exact absurd HA.out (by simp [vq.j0])
  | succ kj4 =>
   have H := HA.out
   clear HA
   simp only [vq.j0] at H
   by_cases c17 : x30_4 = true
   ·subst c17
    have H1 : (some ([] : List (S53))) = some r := by rw [if_pos rfl] at H;exact H
    clear H
    have H := H1
    clear H1
    obtain rfl := Option.some.inj H
    go_wp2
    go_ret
    exact ⟨_,by first | rfl | (simp [*,jk,jj] <;> rfl),by first | exact Kd.R_nil _ _ _ _ _ | exact Kd.N_nil _ _ _ _ _ | exact Kd.V_nil _ _ _ _ _ | exact Kd.Q_nil _ _ _ _ _ | exact Kd.S_nil _ _ _ _ _,by repeat (first | (with_reducible first | exact HB.out | apply qj | apply qz | apply qk | refine qx ?_ GE101.out) | exact HB.out)⟩
   ·replace c17 := Bool.eq_false_iff.mpr c17
    subst c17
    have H1 : (vq.l0 kj4 a2 a3 (([(⟨a1_0,a1_1,a1_2,a1_3⟩ : S53)] : List (S53))) l0 (l0.length : Int) 0) = some r := by rw [if_neg (show ¬ (false = true) by decide)] at H;exact H
    clear H
    have H := H1
    clear H1
    obtain ⟨y103,hy103⟩ : ∃ y_ : List (S53),y_ = (([(⟨a1_0,a1_1,a1_2,a1_3⟩ : S53)] : List (S53))) := ⟨_,rfl⟩
    replace H : (vq.l0 kj4 a2 a3 y103 l0 (l0.length : Int) 0) = some r := by first | (rw [hy103];with_reducible exact H) | (have H2_ := (Option.bind_some _ _).symm.trans H;rw [hy103];with_reducible exact H2_) | (have H2_ := (Option.bind_some _ _).symm.trans H;with_reducible exact H2_) | with_reducible exact H | (rw [hy103];exact H) | exact H
    have Ny103 := qq.mk hy103
    clear hy103
    have H' := qq.mk H
    clear H
    have hcz18_0 : wc.cell? ⟨gb101,0,none⟩ = some (.string a1_0) := (qw BK101.out 0).trans rfl
    have hcz18_1 : wc.cell? ⟨gb101,1,none⟩ = some (.int .i64 a1_1) := (qw BK101.out 1).trans rfl
    have hcz18_2 : wc.cell? ⟨gb101,2,none⟩ = some (.int .i64 a1_2) := (qw BK101.out 2).trans rfl
    have hcz18_3 : wc.cell? ⟨gb101,3,none⟩ = some (.int .i64 a1_3) := (qw BK101.out 3).trans rfl
    have hfz18_0 := qv BK101.out 0
    have hfz18_1 := qv BK101.out 1
    have hfz18_2 := qv BK101.out 2
    have hfz18_3 := qv BK101.out 3
    go_wp2_with (first | ((with_reducible refine gate_dst (N := 32) rfl ?_);refine Kd.R_lit k53 _ 53 ?hg (N := 32) ?hd (xs := ([(⟨a1_0,a1_1,a1_2,a1_3⟩ : S53)] : List (S53))) (inner := [.string a1_0,.int .i64 a1_1,.int .i64 a1_2,.int .i64 a1_3]) (ok := fun _ => True) (okp := fun _ => True) ?hr ?hp (fun _ hk => hk) trivial (Below.refl _ _) (Nat.le_refl _) (by simp) ?_;(case hd => rfl);(case hg => rfl);(case hr => first | (go_simp;done) | (go_simp;rfl));(case hp => exact (Reps.c4 (show Kd.M k53 _ _ _ (⟨a1_0,a1_1,a1_2,a1_3⟩ : S53) [.string a1_0,.int .i64 a1_1,.int .i64 a1_2,.int .i64 a1_3] from (k53_mkM _ _ _ (⟨a1_0,a1_1,a1_2,a1_3⟩ : S53) )) (Reps.none _ _)));intro v104 w19 ho20 hb hg_ hnew_;clear hg_ hnew_;(first | rw [← Ny103.out] at ho20 | (simp only [Int.reduceToNat] at ho20;rw [← Ny103.out] at ho20));have n0_ := qq.mk (Kd.R_lower (Kd.R_newB ho20 (g := gb101) (o := .cells #[.string a1_0,.int .i64 a1_1,.int .i64 a1_2,.int .i64 a1_3] 53 (0,0)) (by (with_reducible repeat (first | refine zz ?_ _ | refine zj ?_ | refine zq ?_ _));exact BK101.out)) (zw (by repeat (first | (with_reducible first | exact HB.out | apply qj | apply qz | apply qk | refine qx ?_ GE101.out) | exact HB.out))));have n1_ := qq.mk (kj (g := gb101) (o := .cells #[.string a1_0,.int .i64 a1_1,.int .i64 a1_2,.int .i64 a1_3] 53 (0,0)) (by (with_reducible repeat (first | refine zz ?_ _ | refine zj ?_ | refine zq ?_ _));exact BK101.out) hb);have n2_ := qq.mk (zv (by repeat (first | (with_reducible first | exact HB.out | apply qj | apply qz | apply qk | refine qx ?_ GE101.out) | exact HB.out)) hb);clear BK101;clear HB;have HO105 := n0_;have BK101 := n1_;have HB := n2_;clear n0_ n1_ n2_;clear hb ho20))
    go_loopg [9,35] kj4 (fun kq v9 v35 w' => ∃ (x9_2 : List (S53)) (x35_2 : Int),v35 = .int .i64 x35_2 ∧ qq (vq.l0 kq a2 a3 x9_2 l0 (l0.length : Int) x35_2 = some r) ∧ qq (kq ≤ kj4) ∧ qq (Kd.R k53 53 w' w.heap.size (fun k_ => k_ ≠ gb101) v9 x9_2) ∧ qq (w'.heap[gb101]? = some (.cells #[.string a1_0,.int .i64 a1_1,.int .i64 a1_2,.int .i64 a1_3] 53 (0,0))) ∧ qq (Below w.heap.size w w'))
    case atStart => exact ⟨(y103),(0),(by first | rfl | (simp;done) | (simp [*];done)),H',⟨Nat.le_refl _⟩,⟨by (with_reducible repeat (first | apply Kd.jq | apply Kd.zx | apply Kd.jz));exact Kd.R_mono HO105.out (fun _ hk => hk.2)⟩,⟨by (with_reducible repeat (first | refine zz ?_ _ | refine zj ?_ | refine zq ?_ _));exact BK101.out⟩,⟨by repeat (first | (with_reducible first | exact HB.out | apply qj | apply qz | apply qk | refine qx ?_ GE101.out) | exact HB.out)⟩⟩
    case round =>
     clear H'
     try clear c1
     try clear c2
     try clear p2
     try clear c4
     try clear c8
     try clear c9
     try clear c9b0
     try clear c11
     try clear c11b0
     try clear c13
     try clear c13b0
     try clear c16
     try clear c17
     try clear hcz18_0
     try clear hcz18_1
     try clear hcz18_2
     try clear hcz18_3
     try clear hfz18_0
     try clear hfz18_1
     try clear hfz18_2
     try clear hfz18_3
     try clear p2
     obtain ⟨x9_2,x35_2,rfl,HA,HK2,HO_9,BK101,HB⟩ := hrel
     cases gk with
     | zero => exact absurd HA.out (by simp [vq.l0])
     | succ k2 =>
      have H := HA.out
      clear HA
      simp only [vq.l0] at H
      by_cases c21 : x35_2 < (l0.length : Int)
      ·rw [if_pos c21] at H
       have c21b0 : decide (x35_2 < (l0.length : Int)) = true := decide_eq_true c21
       clear c21
       by_cases c22 : 0 ≤ x35_2
       ·rw [if_pos c22] at H
        have c22b0 : decide (0 ≤ x35_2) = true := decide_eq_true c22
        clear c22
        by_cases c23 : x35_2 < (l0.length : Int)
        ·rw [if_pos c23] at H
         have c23b0 : decide (x35_2 < (l0.length : Int)) = true := decide_eq_true c23
         clear c23
         by_cases c24 : ((kw l0 x35_2).f3) < a2
         ·rw [if_pos c24] at H
          have c24b0 : decide (((kw l0 x35_2).f3) < a2) = true := decide_eq_true c24
          clear c24
          have H' := qq.mk H
          clear H
          have p106 : 0 ≤ (x35_2 : Int) := of_decide_eq_true (by assumption)
          have q106 : x35_2 < (l0.length : Int) := of_decide_eq_true (by assumption)
          obtain ⟨ad106,e106,hx106_0,hx106_1,hx106_2,hx106_3⟩ := at_T53 HR0.out x35_2 p106 q106
          cases e106
          replace hx106_0 := (HB.out.cell (World.block_lt_of_cell? w _ hx106_0)).trans hx106_0
          replace hx106_1 := (HB.out.cell (World.block_lt_of_cell? w _ hx106_1)).trans hx106_1
          replace hx106_2 := (HB.out.cell (World.block_lt_of_cell? w _ hx106_2)).trans hx106_2
          replace hx106_3 := (HB.out.cell (World.block_lt_of_cell? w _ hx106_3)).trans hx106_3
          replace p106 := eq_true p106
          replace q106 := eq_true q106
          go_wp2_with (first | ((with_reducible refine gate_dst (N := 11) rfl ?_);refine box_event ?hg (N := 11) ?hd (cs := #[.string (⟨#[]⟩ : ByteArray),.int .i64 0,.int .i64 0,.int .i64 0]) (t := 53) ?hr ?_;(case hd => rfl);(case hg => rfl);(case hr => first | (go_simp;done) | (go_simp;rfl));intro gb107 hg w25 hbox hb;have n0_ := qq.mk (Kd.R_below (Kd.R_elderB (by (with_reducible repeat (first | apply Kd.jq | apply Kd.zx | apply Kd.jz));exact HO_9.out) gb107 (Nat.le_of_eq hg.symm)) hb);have n1_ := qq.mk (kj (g := gb101) (o := .cells #[.string a1_0,.int .i64 a1_1,.int .i64 a1_2,.int .i64 a1_3] 53 (0,0)) (by (with_reducible repeat (first | refine zz ?_ _ | refine zj ?_ | refine zq ?_ _));exact BK101.out) hb);have n2_ := qq.mk (zv (by repeat (first | (with_reducible first | exact HB.out | apply qj | apply qz | apply qk | refine qx ?_ GE101.out) | exact HB.out)) hb);have n3_ := qq.mk (hbox);have n4_ := qq.mk ((by rw [hg];exact (zw (by repeat (first | (with_reducible first | exact HB.out | apply qj | apply qz | apply qk | refine qx ?_ GE101.out) | exact HB.out))) : w.heap.size ≤ gb107));have n5_ := qq.mk ((by rw [hg];exact (zw (by repeat (first | (with_reducible first | exact HB.out | apply qj | apply qz | apply qk | refine qx ?_ GE101.out) | exact HB.out))) : w.heap.size ≤ gb107));have n6_ := qq.mk ((by rw [hg];exact Nat.ne_of_lt (blk_lt (g := gb101) (o := .cells #[.string a1_0,.int .i64 a1_1,.int .i64 a1_2,.int .i64 a1_3] 53 (0,0)) (by (with_reducible repeat (first | refine zz ?_ _ | refine zj ?_ | refine zq ?_ _));exact BK101.out)) : gb101 ≠ gb107));have n7_ := qq.mk ((by rw [hg];exact Nat.ne_of_gt (blk_lt (g := gb101) (o := .cells #[.string a1_0,.int .i64 a1_1,.int .i64 a1_2,.int .i64 a1_3] 53 (0,0)) (by (with_reducible repeat (first | refine zz ?_ _ | refine zj ?_ | refine zq ?_ _));exact BK101.out)) : gb107 ≠ gb101));clear HO_9;clear BK101;clear HB;have HO_9 := n0_;have BK101 := n1_;have HB := n2_;have BK107 := n3_;have GW107 := n4_;have GE107 := n5_;have NB101_107 := n6_;have NB107_101 := n7_;clear n0_ n1_ n2_ n3_ n4_ n5_ n6_ n7_;clear hb hbox hg;have hnb26 := NB107_101.out;have hnc26 := NB101_107.out;have hcz27_0 : w25.cell? ⟨gb107,0,none⟩ = some (.string (⟨#[]⟩ : ByteArray)) := (qw BK107.out 0).trans rfl;have hcz27_1 : w25.cell? ⟨gb107,1,none⟩ = some (.int .i64 0) := (qw BK107.out 1).trans rfl;have hcz27_2 : w25.cell? ⟨gb107,2,none⟩ = some (.int .i64 0) := (qw BK107.out 2).trans rfl;have hcz27_3 : w25.cell? ⟨gb107,3,none⟩ = some (.int .i64 0) := (qw BK107.out 3).trans rfl;have hfz27_0 := qv BK107.out 0;have hfz27_1 := qv BK107.out 1;have hfz27_2 := qv BK107.out 2;have hfz27_3 := qv BK107.out 3))
          go_roundg k2
          case measure => have := HJ4.out;have := HK2.out;omega
          case rel => exact ⟨(x9_2),(wrap64 (x35_2 + 1)),(by first | rfl | (simp;done) | (simp [*];done)),H',⟨by have := HJ4.out;have := HK2.out;omega⟩,⟨by (with_reducible repeat (first | apply Kd.jq | apply Kd.zx | apply Kd.jz));exact Kd.R_mono (Kd.R_far (p := ⟨gb107,3,none⟩) (Kd.R_far (p := ⟨gb107,2,none⟩) (Kd.R_far (p := ⟨gb107,1,none⟩) (Kd.R_far (p := ⟨gb107,0,none⟩) (Kd.R_mono HO_9.out (fun k_ hk => (⟨hk,hk.2⟩ : _ ∧ k_ ≠ gb107))) (fun _ hk => hk.2) (.string ((kw l0 x35_2).f0))) (fun _ hk => hk.2) (.int .i64 ((kw l0 x35_2).f1))) (fun _ hk => hk.2) (.int .i64 ((kw l0 x35_2).f2))) (fun _ hk => hk.2) (.int .i64 ((kw l0 x35_2).f3))) (fun _ hk => hk.1.1)⟩,⟨by (with_reducible repeat (first | refine zz ?_ _ | refine zj ?_ | refine zq ?_ _));refine blk_far ?_ NB101_107.out _;(with_reducible repeat (first | refine zz ?_ _ | refine zj ?_ | refine zq ?_ _));refine blk_far ?_ NB101_107.out _;(with_reducible repeat (first | refine zz ?_ _ | refine zj ?_ | refine zq ?_ _));refine blk_far ?_ NB101_107.out _;(with_reducible repeat (first | refine zz ?_ _ | refine zj ?_ | refine zq ?_ _));refine blk_far ?_ NB101_107.out _;(with_reducible repeat (first | refine zz ?_ _ | refine zj ?_ | refine zq ?_ _));exact BK101.out⟩,⟨by repeat (first | (with_reducible first | exact HB.out | apply qj | apply qz | apply qk | refine qx ?_ GE101.out | refine qx ?_ GE107.out) | exact HB.out)⟩⟩
         ·rw [if_neg c24] at H
          have c24b0 : decide (((kw l0 x35_2).f3) < a2) = false := decide_eq_false c24
          clear c24
          by_cases c28 : ((kw l0 x35_2).f2) > (wrap64 (a2 + a3))
          ·rw [if_pos c28] at H
           have c28b0 : decide ((wrap64 (a2 + a3)) < ((kw l0 x35_2).f2)) = true := decide_eq_true c28
           clear c28
           have H' := qq.mk H
           clear H
           have p106 : 0 ≤ (x35_2 : Int) := of_decide_eq_true (by assumption)
           have q106 : x35_2 < (l0.length : Int) := of_decide_eq_true (by assumption)
           obtain ⟨ad106,e106,hx106_0,hx106_1,hx106_2,hx106_3⟩ := at_T53 HR0.out x35_2 p106 q106
           cases e106
           replace hx106_0 := (HB.out.cell (World.block_lt_of_cell? w _ hx106_0)).trans hx106_0
           replace hx106_1 := (HB.out.cell (World.block_lt_of_cell? w _ hx106_1)).trans hx106_1
           replace hx106_2 := (HB.out.cell (World.block_lt_of_cell? w _ hx106_2)).trans hx106_2
           replace hx106_3 := (HB.out.cell (World.block_lt_of_cell? w _ hx106_3)).trans hx106_3
           replace p106 := eq_true p106
           replace q106 := eq_true q106
           go_wp2_with (first | ((with_reducible refine gate_dst (N := 11) rfl ?_);refine box_event ?hg (N := 11) ?hd (cs := #[.string (⟨#[]⟩ : ByteArray),.int .i64 0,.int .i64 0,.int .i64 0]) (t := 53) ?hr ?_;(case hd => rfl);(case hg => rfl);(case hr => first | (go_simp;done) | (go_simp;rfl));intro gb107 hg w29 hbox hb;have n0_ := qq.mk (Kd.R_below (Kd.R_elderB (by (with_reducible repeat (first | apply Kd.jq | apply Kd.zx | apply Kd.jz));exact HO_9.out) gb107 (Nat.le_of_eq hg.symm)) hb);have n1_ := qq.mk (kj (g := gb101) (o := .cells #[.string a1_0,.int .i64 a1_1,.int .i64 a1_2,.int .i64 a1_3] 53 (0,0)) (by (with_reducible repeat (first | refine zz ?_ _ | refine zj ?_ | refine zq ?_ _));exact BK101.out) hb);have n2_ := qq.mk (zv (by repeat (first | (with_reducible first | exact HB.out | apply qj | apply qz | apply qk | refine qx ?_ GE101.out) | exact HB.out)) hb);have n3_ := qq.mk (hbox);have n4_ := qq.mk ((by rw [hg];exact (zw (by repeat (first | (with_reducible first | exact HB.out | apply qj | apply qz | apply qk | refine qx ?_ GE101.out) | exact HB.out))) : w.heap.size ≤ gb107));have n5_ := qq.mk ((by rw [hg];exact (zw (by repeat (first | (with_reducible first | exact HB.out | apply qj | apply qz | apply qk | refine qx ?_ GE101.out) | exact HB.out))) : w.heap.size ≤ gb107));have n6_ := qq.mk ((by rw [hg];exact Nat.ne_of_lt (blk_lt (g := gb101) (o := .cells #[.string a1_0,.int .i64 a1_1,.int .i64 a1_2,.int .i64 a1_3] 53 (0,0)) (by (with_reducible repeat (first | refine zz ?_ _ | refine zj ?_ | refine zq ?_ _));exact BK101.out)) : gb101 ≠ gb107));have n7_ := qq.mk ((by rw [hg];exact Nat.ne_of_gt (blk_lt (g := gb101) (o := .cells #[.string a1_0,.int .i64 a1_1,.int .i64 a1_2,.int .i64 a1_3] 53 (0,0)) (by (with_reducible repeat (first | refine zz ?_ _ | refine zj ?_ | refine zq ?_ _));exact BK101.out)) : gb107 ≠ gb101));clear HO_9;clear BK101;clear HB;have HO_9 := n0_;have BK101 := n1_;have HB := n2_;have BK107 := n3_;have GW107 := n4_;have GE107 := n5_;have NB101_107 := n6_;have NB107_101 := n7_;clear n0_ n1_ n2_ n3_ n4_ n5_ n6_ n7_;clear hb hbox hg;have hnb30 := NB107_101.out;have hnc30 := NB101_107.out;have hcz31_0 : w29.cell? ⟨gb107,0,none⟩ = some (.string (⟨#[]⟩ : ByteArray)) := (qw BK107.out 0).trans rfl;have hcz31_1 : w29.cell? ⟨gb107,1,none⟩ = some (.int .i64 0) := (qw BK107.out 1).trans rfl;have hcz31_2 : w29.cell? ⟨gb107,2,none⟩ = some (.int .i64 0) := (qw BK107.out 2).trans rfl;have hcz31_3 : w29.cell? ⟨gb107,3,none⟩ = some (.int .i64 0) := (qw BK107.out 3).trans rfl;have hfz31_0 := qv BK107.out 0;have hfz31_1 := qv BK107.out 1;have hfz31_2 := qv BK107.out 2;have hfz31_3 := qv BK107.out 3))
           go_roundg k2
           case measure => have := HJ4.out;have := HK2.out;omega
           case rel => exact ⟨(x9_2),(wrap64 (x35_2 + 1)),(by first | rfl | (simp;done) | (simp [*];done)),H',⟨by have := HJ4.out;have := HK2.out;omega⟩,⟨by (with_reducible repeat (first | apply Kd.jq | apply Kd.zx | apply Kd.jz));exact Kd.R_mono (Kd.R_far (p := ⟨gb107,3,none⟩) (Kd.R_far (p := ⟨gb107,2,none⟩) (Kd.R_far (p := ⟨gb107,1,none⟩) (Kd.R_far (p := ⟨gb107,0,none⟩) (Kd.R_mono HO_9.out (fun k_ hk => (⟨hk,hk.2⟩ : _ ∧ k_ ≠ gb107))) (fun _ hk => hk.2) (.string ((kw l0 x35_2).f0))) (fun _ hk => hk.2) (.int .i64 ((kw l0 x35_2).f1))) (fun _ hk => hk.2) (.int .i64 ((kw l0 x35_2).f2))) (fun _ hk => hk.2) (.int .i64 ((kw l0 x35_2).f3))) (fun _ hk => hk.1.1)⟩,⟨by (with_reducible repeat (first | refine zz ?_ _ | refine zj ?_ | refine zq ?_ _));refine blk_far ?_ NB101_107.out _;(with_reducible repeat (first | refine zz ?_ _ | refine zj ?_ | refine zq ?_ _));refine blk_far ?_ NB101_107.out _;(with_reducible repeat (first | refine zz ?_ _ | refine zj ?_ | refine zq ?_ _));refine blk_far ?_ NB101_107.out _;(with_reducible repeat (first | refine zz ?_ _ | refine zj ?_ | refine zq ?_ _));refine blk_far ?_ NB101_107.out _;(with_reducible repeat (first | refine zz ?_ _ | refine zj ?_ | refine zq ?_ _));exact BK101.out⟩,⟨by repeat (first | (with_reducible first | exact HB.out | apply qj | apply qz | apply qk | refine qx ?_ GE101.out | refine qx ?_ GE107.out) | exact HB.out)⟩⟩
          ·rw [if_neg c28] at H
           have c28b0 : decide ((wrap64 (a2 + a3)) < ((kw l0 x35_2).f2)) = false := decide_eq_false c28
           clear c28
           obtain ⟨ji32,hji32⟩ : ∃ j_ : Int,(mn ((kw l0 x35_2).f3) (wrap64 (a2 + a3))) = j_ := ⟨_,rfl⟩
           replace H : (if x9_2.length < 3518437208883 then (vq.l0 k2 a2 a3 (x9_2 ++ [(⟨(kw l0 x35_2).f0,(kw l0 x35_2).f1,(kw l0 x35_2).f2,ji32⟩ : S53)]) l0 (l0.length : Int) (wrap64 (x35_2 + 1))) else (none)) = some r := by first | (rw [hji32] at H;exact H) | (simp only [hji32] at H ⊢;exact H)
           have hji32_ : (if (wrap64 (a2 + a3)) < ((kw l0 x35_2).f3) then (wrap64 (a2 + a3)) else ((kw l0 x35_2).f3)) = ji32 := hji32
           by_cases c33 : x9_2.length < 3518437208883
           ·rw [if_pos c33] at H
            have LMc33 := qq.mk c33
            clear c33
            obtain ⟨y108,hy108⟩ : ∃ y_ : List (S53),y_ = (x9_2 ++ [(⟨(kw l0 x35_2).f0,(kw l0 x35_2).f1,(kw l0 x35_2).f2,ji32⟩ : S53)]) := ⟨_,rfl⟩
            replace H : (vq.l0 k2 a2 a3 y108 l0 (l0.length : Int) (wrap64 (x35_2 + 1))) = some r := by first | (rw [hy108];with_reducible exact H) | (have H2_ := (Option.bind_some _ _).symm.trans H;rw [hy108];with_reducible exact H2_) | (have H2_ := (Option.bind_some _ _).symm.trans H;with_reducible exact H2_) | with_reducible exact H | (rw [hy108];exact H) | exact H
            have Ny108 := qq.mk hy108
            clear hy108
            have H' := qq.mk H
            clear H
            have p106 : 0 ≤ (x35_2 : Int) := of_decide_eq_true (by assumption)
            have q106 : x35_2 < (l0.length : Int) := of_decide_eq_true (by assumption)
            obtain ⟨ad106,e106,hx106_0,hx106_1,hx106_2,hx106_3⟩ := at_T53 HR0.out x35_2 p106 q106
            cases e106
            replace hx106_0 := (HB.out.cell (World.block_lt_of_cell? w _ hx106_0)).trans hx106_0
            replace hx106_1 := (HB.out.cell (World.block_lt_of_cell? w _ hx106_1)).trans hx106_1
            replace hx106_2 := (HB.out.cell (World.block_lt_of_cell? w _ hx106_2)).trans hx106_2
            replace hx106_3 := (HB.out.cell (World.block_lt_of_cell? w _ hx106_3)).trans hx106_3
            replace p106 := eq_true p106
            replace q106 := eq_true q106
            go_wp2_with (first | ((with_reducible refine gate_dst (N := 11) rfl ?_);refine box_event ?hg (N := 11) ?hd (cs := #[.string (⟨#[]⟩ : ByteArray),.int .i64 0,.int .i64 0,.int .i64 0]) (t := 53) ?hr ?_;(case hd => rfl);(case hg => rfl);(case hr => first | (go_simp;done) | (go_simp;rfl));intro gb107 hg w34 hbox hb;have n0_ := qq.mk (Kd.R_below (Kd.R_elderB (by (with_reducible repeat (first | apply Kd.jq | apply Kd.zx | apply Kd.jz));exact HO_9.out) gb107 (Nat.le_of_eq hg.symm)) hb);have n1_ := qq.mk (kj (g := gb101) (o := .cells #[.string a1_0,.int .i64 a1_1,.int .i64 a1_2,.int .i64 a1_3] 53 (0,0)) (by (with_reducible repeat (first | refine zz ?_ _ | refine zj ?_ | refine zq ?_ _));exact BK101.out) hb);have n2_ := qq.mk (zv (by repeat (first | (with_reducible first | exact HB.out | apply qj | apply qz | apply qk | refine qx ?_ GE101.out) | exact HB.out)) hb);have n3_ := qq.mk (hbox);have n4_ := qq.mk ((by rw [hg];exact (zw (by repeat (first | (with_reducible first | exact HB.out | apply qj | apply qz | apply qk | refine qx ?_ GE101.out) | exact HB.out))) : w.heap.size ≤ gb107));have n5_ := qq.mk ((by rw [hg];exact (zw (by repeat (first | (with_reducible first | exact HB.out | apply qj | apply qz | apply qk | refine qx ?_ GE101.out) | exact HB.out))) : w.heap.size ≤ gb107));have n6_ := qq.mk ((by rw [hg];exact Nat.ne_of_lt (blk_lt (g := gb101) (o := .cells #[.string a1_0,.int .i64 a1_1,.int .i64 a1_2,.int .i64 a1_3] 53 (0,0)) (by (with_reducible repeat (first | refine zz ?_ _ | refine zj ?_ | refine zq ?_ _));exact BK101.out)) : gb101 ≠ gb107));have n7_ := qq.mk ((by rw [hg];exact Nat.ne_of_gt (blk_lt (g := gb101) (o := .cells #[.string a1_0,.int .i64 a1_1,.int .i64 a1_2,.int .i64 a1_3] 53 (0,0)) (by (with_reducible repeat (first | refine zz ?_ _ | refine zj ?_ | refine zq ?_ _));exact BK101.out)) : gb107 ≠ gb101));clear HO_9;clear BK101;clear HB;have HO_9 := n0_;have BK101 := n1_;have HB := n2_;have BK107 := n3_;have GW107 := n4_;have GE107 := n5_;have NB101_107 := n6_;have NB107_101 := n7_;clear n0_ n1_ n2_ n3_ n4_ n5_ n6_ n7_;clear hb hbox hg;have hnb35 := NB107_101.out;have hnc35 := NB101_107.out;have hcz36_0 : w34.cell? ⟨gb107,0,none⟩ = some (.string (⟨#[]⟩ : ByteArray)) := (qw BK107.out 0).trans rfl;have hcz36_1 : w34.cell? ⟨gb107,1,none⟩ = some (.int .i64 0) := (qw BK107.out 1).trans rfl;have hcz36_2 : w34.cell? ⟨gb107,2,none⟩ = some (.int .i64 0) := (qw BK107.out 2).trans rfl;have hcz36_3 : w34.cell? ⟨gb107,3,none⟩ = some (.int .i64 0) := (qw BK107.out 3).trans rfl;have hfz36_0 := qv BK107.out 0;have hfz36_1 := qv BK107.out 1;have hfz36_2 := qv BK107.out 2;have hfz36_3 := qv BK107.out 3) | ((with_reducible refine gate_builtin (b := .append) (xs := #[.tmp 58,.tmp 60]) rfl ?_);at_builtin;refine Kd.R_append k53 (w0 := w) w.heap.size rfl (.tmp 58) (.tmp 60) 34 53 (.agg #[(.string ⟨#[]⟩),(.int .i64 0),(.int .i64 0),(.int .i64 0)]) 40 rfl Try.underlying34 info53 rfl (by decide) (by omega) u9 x9_2 (⟨(kw l0 x35_2).f0,(kw l0 x35_2).f1,(kw l0 x35_2).f2,ji32⟩ : S53) [.string ((kw l0 x35_2).f0),.int .i64 ((kw l0 x35_2).f1),.int .i64 ((kw l0 x35_2).f2),.int .i64 ji32] (fun k_ => k_ ≠ gb101 ∧ k_ ≠ gb107) (fun _ => False) rfl (by first | (go_simp;done) | (go_simp;rfl)) ?aP (fun _ hk => hk.elim) ?aF ?aO ?aB ?aS ?aL ?_;(case aP => exact k53_mkM _ _ _ (⟨(kw l0 x35_2).f0,(kw l0 x35_2).f1,(kw l0 x35_2).f2,ji32⟩ : S53));(case aB => exact (by repeat (first | (with_reducible first | exact HB.out | apply qj | apply qz | apply qk | refine qx ?_ GE101.out | refine qx ?_ GE107.out) | exact HB.out)));(case aF => exact (fun k_ hk => ⟨Kd.freshB (g := gb101) (o := .cells #[.string a1_0,.int .i64 a1_1,.int .i64 a1_2,.int .i64 a1_3] 53 (0,0)) (by (with_reducible repeat (first | refine zz ?_ _ | refine zj ?_ | refine zq ?_ _));refine blk_far ?_ NB101_107.out _;(with_reducible repeat (first | refine zz ?_ _ | refine zj ?_ | refine zq ?_ _));refine blk_far ?_ NB101_107.out _;(with_reducible repeat (first | refine zz ?_ _ | refine zj ?_ | refine zq ?_ _));refine blk_far ?_ NB101_107.out _;(with_reducible repeat (first | refine zz ?_ _ | refine zj ?_ | refine zq ?_ _));refine blk_far ?_ NB101_107.out _;(with_reducible repeat (first | refine zz ?_ _ | refine zj ?_ | refine zq ?_ _));exact BK101.out) k_ hk,Kd.freshB (g := gb107) (o := .cells #[.string ((kw l0 x35_2).f0),.int .i64 ((kw l0 x35_2).f1),.int .i64 ((kw l0 x35_2).f2),.int .i64 ji32] 53 (0,0)) (by (with_reducible repeat (first | refine zz ?_ _ | refine zj ?_ | refine zq ?_ _));refine blk_put (cs := #[.string ((kw l0 x35_2).f0),.int .i64 ((kw l0 x35_2).f1),.int .i64 ((kw l0 x35_2).f2),.int .i64 0]) ?_ 3 _ rfl;(with_reducible repeat (first | refine zz ?_ _ | refine zj ?_ | refine zq ?_ _));refine blk_put (cs := #[.string ((kw l0 x35_2).f0),.int .i64 ((kw l0 x35_2).f1),.int .i64 0,.int .i64 0]) ?_ 2 _ rfl;(with_reducible repeat (first | refine zz ?_ _ | refine zj ?_ | refine zq ?_ _));refine blk_put (cs := #[.string ((kw l0 x35_2).f0),.int .i64 0,.int .i64 0,.int .i64 0]) ?_ 1 _ rfl;(with_reducible repeat (first | refine zz ?_ _ | refine zj ?_ | refine zq ?_ _));refine blk_put (cs := #[.string (⟨#[]⟩ : ByteArray),.int .i64 0,.int .i64 0,.int .i64 0]) ?_ 0 _ rfl;(with_reducible repeat (first | refine zz ?_ _ | refine zj ?_ | refine zq ?_ _));exact BK107.out) k_ hk⟩));(case aO => exact (by (with_reducible repeat (first | apply Kd.jq | apply Kd.zx | apply Kd.jz));exact Kd.R_mono (Kd.R_far (p := ⟨gb107,3,none⟩) (Kd.R_far (p := ⟨gb107,2,none⟩) (Kd.R_far (p := ⟨gb107,1,none⟩) (Kd.R_far (p := ⟨gb107,0,none⟩) (Kd.R_mono HO_9.out (fun k_ hk => (⟨hk,hk.2⟩ : _ ∧ k_ ≠ gb107))) (fun _ hk => hk.2) (.string ((kw l0 x35_2).f0))) (fun _ hk => hk.2) (.int .i64 ((kw l0 x35_2).f1))) (fun _ hk => hk.2) (.int .i64 ((kw l0 x35_2).f2))) (fun _ hk => hk.2) (.int .i64 ji32)) (fun _ hk => ⟨hk.1.1,hk.1.2⟩)));(case aS => exact (zw (by repeat (first | (with_reducible first | exact HB.out | apply qj | apply qz | apply qk | refine qx ?_ GE101.out | refine qx ?_ GE107.out) | exact HB.out))));(case aL => have := LMc33.out;omega);intro v109 w37 ho hb hg hat;rw [← Ny108.out] at ho;have n0_ := qq.mk (blk_grown (g := gb101) (o := .cells #[.string a1_0,.int .i64 a1_1,.int .i64 a1_2,.int .i64 a1_3] 53 (0,0)) (by (with_reducible repeat (first | refine zz ?_ _ | refine zj ?_ | refine zq ?_ _));refine blk_far ?_ NB101_107.out _;(with_reducible repeat (first | refine zz ?_ _ | refine zj ?_ | refine zq ?_ _));refine blk_far ?_ NB101_107.out _;(with_reducible repeat (first | refine zz ?_ _ | refine zj ?_ | refine zq ?_ _));refine blk_far ?_ NB101_107.out _;(with_reducible repeat (first | refine zz ?_ _ | refine zj ?_ | refine zq ?_ _));refine blk_far ?_ NB101_107.out _;(with_reducible repeat (first | refine zz ?_ _ | refine zj ?_ | refine zq ?_ _));exact BK101.out) hg (Kd.R_away HO_9.out (fun _ hk => hk.1)));have n1_ := qq.mk (blk_grown (g := gb107) (o := .cells #[.string ((kw l0 x35_2).f0),.int .i64 ((kw l0 x35_2).f1),.int .i64 ((kw l0 x35_2).f2),.int .i64 ji32] 53 (0,0)) (by (with_reducible repeat (first | refine zz ?_ _ | refine zj ?_ | refine zq ?_ _));refine blk_put (cs := #[.string ((kw l0 x35_2).f0),.int .i64 ((kw l0 x35_2).f1),.int .i64 ((kw l0 x35_2).f2),.int .i64 0]) ?_ 3 _ rfl;(with_reducible repeat (first | refine zz ?_ _ | refine zj ?_ | refine zq ?_ _));refine blk_put (cs := #[.string ((kw l0 x35_2).f0),.int .i64 ((kw l0 x35_2).f1),.int .i64 0,.int .i64 0]) ?_ 2 _ rfl;(with_reducible repeat (first | refine zz ?_ _ | refine zj ?_ | refine zq ?_ _));refine blk_put (cs := #[.string ((kw l0 x35_2).f0),.int .i64 0,.int .i64 0,.int .i64 0]) ?_ 1 _ rfl;(with_reducible repeat (first | refine zz ?_ _ | refine zj ?_ | refine zq ?_ _));refine blk_put (cs := #[.string (⟨#[]⟩ : ByteArray),.int .i64 0,.int .i64 0,.int .i64 0]) ?_ 0 _ rfl;(with_reducible repeat (first | refine zz ?_ _ | refine zj ?_ | refine zq ?_ _));exact BK107.out) hg (Kd.R_away HO_9.out (fun _ hk => hk.2)));have n2_ := qq.mk (hb);have n3_ := qq.mk (ho);clear BK101;clear BK107;clear HB;clear HO_9;have BK101 := n0_;have BK107 := n1_;have HB := n2_;have HO110 := n3_;clear n0_ n1_ n2_ n3_;clear ho hb hg hat))
            go_roundg k2
            case measure => have := HJ4.out;have := HK2.out;omega
            case rel => exact ⟨(y108),(wrap64 (x35_2 + 1)),(by first | rfl | (simp;done) | (simp [*];done)),H',⟨by have := HJ4.out;have := HK2.out;omega⟩,⟨by (with_reducible repeat (first | apply Kd.jq | apply Kd.zx | apply Kd.jz));exact Kd.R_mono HO110.out (fun _ hk => hk.1)⟩,⟨by (with_reducible repeat (first | refine zz ?_ _ | refine zj ?_ | refine zq ?_ _));exact BK101.out⟩,⟨by repeat (first | (with_reducible first | exact HB.out | apply qj | apply qz | apply qk | refine qx ?_ GE101.out | refine qx ?_ GE107.out) | exact HB.out)⟩⟩
           ·rw [if_neg c33] at H
            exact absurd H (by simp)
        ·rw [if_neg c23] at H
         exact absurd H (by simp)
       ·rw [if_neg c22] at H
        exact absurd H (by simp)
      ·rw [if_neg c21] at H
       have c21b0 : decide (x35_2 < (l0.length : Int)) = false := decide_eq_false c21
       clear c21
       replace H := Option.bind_eq_some_iff.mp H
       obtain ⟨t111,A380,H⟩ := H
       replace H : ((kx.f k2 t111).bind fun t112 => (if t112 = true then (some t111) else (some ([] : List (S53))))) = some r := H
       have A38 := qq.mk A380
       clear A380
       replace H := Option.bind_eq_some_iff.mp H
       obtain ⟨t112,A390,H⟩ := H
       replace H : (if t112 = true then (some t111) else (some ([] : List (S53)))) = some r := H
       have A39 := qq.mk A390
       clear A390
       by_cases c40 : t112 = true
       ·subst c40
        have H1 : (some t111) = some r := by rw [if_pos rfl] at H;exact H
        clear H
        have H := H1
        clear H1
        obtain rfl := Option.some.inj H
        obtain ⟨Ao41,co41,eo41⟩ := Kd.R_slice HO_9.out
        subst eo41
        go_wp2_with (first | ((with_reducible refine jv (f := 55) rfl ?_);refine goesL_ (some 64) rfl rfl Try.func55 (by kernel_rfl) rfl #[.slice Ao41 x9_2.length co41,.func (.func 56) #[] #[]] rfl (by (try simp only [List.map_toArray,List.map_cons,List.map_nil]);first | done | rfl | (simp only [List.length_drop,List.length_take];rfl)) ?_;(with_reducible refine (sort_impl_RotateRing_1.calls k2 (fun k_ => some k_ = (.slice Ao41 x9_2.length co41 : Value).ownBlock) (.slice Ao41 x9_2.length co41) x9_2 t111 w _ ?side1 ?side2 A38.out).mono ?_);(case side1 => repeat (first | (with_reducible first | exact HB.out | apply qj | apply qz | apply qk | refine qx ?_ GE101.out) | exact HB.out));(case side2 => exact Kd.R_tight rfl HO_9.out);rintro e w42 ⟨rfl,hy0,hb,hkp⟩;refine ⟨_,rfl,?_⟩;have n0_ := qq.mk (Kd.R_reok rfl hy0 (fun k_ e_ => HO_9.out.1 k_ e_));have n1_ := qq.mk (blk_kept (by (with_reducible repeat (first | refine zz ?_ _ | refine zj ?_ | refine zq ?_ _));exact BK101.out) hkp (fun hs_ => (fun e_ => (Kd.R_away HO_9.out (fun _ hk => hk)) e_) hs_));have n2_ := qq.mk (hb);clear HO_9;clear BK101;clear HB;have HO_9 := n0_;have BK101 := n1_;have HB := n2_;clear n0_ n1_ n2_;(try clear hb);(try clear hkp);(try clear hy0)) | ((with_reducible refine jv (f := 16) rfl ?_);refine goesL_ (some 66) rfl rfl Try.func16 (by kernel_rfl) rfl #[.slice Ao41 t111.length co41] rfl (by (try simp only [List.map_toArray,List.map_cons,List.map_nil]);first | done | (rw [show t111.length = x9_2.length from (Kd.R_reads' HO_9.out).1.symm] <;> rfl) | rfl | (simp only [List.length_drop,List.length_take];rfl)) ?_;(with_reducible refine (kx.calls k2 _ _ t111 true _ ?side1 ?side2 A39.out).mono ?_);(case side1 => repeat (first | exact (Kd.R_reads' HO_9.out).2.2 | (with_reducible refine Kd.C_alloc ?_ _) | (with_reducible refine Kd.C_drewN ?_ _) | (with_reducible refine Kd.C_drew ?_)));(case side2 => rw [show t111.length = x9_2.length from (Kd.R_reads' HO_9.out).1.symm];exact (Kd.R_reads' HO_9.out).2.1);rintro e w43 ⟨rfl,hb⟩;refine ⟨_,rfl,?_⟩;have n0_ := qq.mk (Kd.R_below (by (with_reducible repeat (first | apply Kd.jq | apply Kd.zx | apply Kd.jz));exact HO_9.out) hb);have n1_ := qq.mk (kj (g := gb101) (o := .cells #[.string a1_0,.int .i64 a1_1,.int .i64 a1_2,.int .i64 a1_3] 53 (0,0)) (by (with_reducible repeat (first | refine zz ?_ _ | refine zj ?_ | refine zq ?_ _));exact BK101.out) hb);have n2_ := qq.mk (zv (by repeat (first | (with_reducible first | exact HB.out | apply qj | apply qz | apply qk | refine qx ?_ GE101.out) | exact HB.out)) hb);clear HO_9;clear BK101;clear HB;have HO_9 := n0_;have BK101 := n1_;have HB := n2_;clear n0_ n1_ n2_;(try clear hb);(try clear hb2);(try clear hk);(try clear hi)))
        go_ret
        exact ⟨_,by first | rfl | (simp [*,jk,jj] <;> rfl),by (with_reducible repeat (first | apply Kd.jq | apply Kd.zx | apply Kd.jz));exact Kd.R_mono HO_9.out (fun _ hk => trivial),by repeat (first | (with_reducible first | exact HB.out | apply qj | apply qz | apply qk | refine qx ?_ GE101.out) | exact HB.out)⟩
       ·replace c40 := Bool.eq_false_iff.mpr c40
        subst c40
        have H1 : (some ([] : List (S53))) = some r := by rw [if_neg (show ¬ (false = true) by decide)] at H;exact H
        clear H
        have H := H1
        clear H1
        obtain rfl := Option.some.inj H
        obtain ⟨Ao44,co44,eo44⟩ := Kd.R_slice HO_9.out
        subst eo44
        go_wp2_with (first | ((with_reducible refine jv (f := 55) rfl ?_);refine goesL_ (some 64) rfl rfl Try.func55 (by kernel_rfl) rfl #[.slice Ao44 x9_2.length co44,.func (.func 56) #[] #[]] rfl (by (try simp only [List.map_toArray,List.map_cons,List.map_nil]);first | done | rfl | (simp only [List.length_drop,List.length_take];rfl)) ?_;(with_reducible refine (sort_impl_RotateRing_1.calls k2 (fun k_ => some k_ = (.slice Ao44 x9_2.length co44 : Value).ownBlock) (.slice Ao44 x9_2.length co44) x9_2 t111 w _ ?side1 ?side2 A38.out).mono ?_);(case side1 => repeat (first | (with_reducible first | exact HB.out | apply qj | apply qz | apply qk | refine qx ?_ GE101.out) | exact HB.out));(case side2 => exact Kd.R_tight rfl HO_9.out);rintro e w45 ⟨rfl,hy0,hb,hkp⟩;refine ⟨_,rfl,?_⟩;have n0_ := qq.mk (Kd.R_reok rfl hy0 (fun k_ e_ => HO_9.out.1 k_ e_));have n1_ := qq.mk (blk_kept (by (with_reducible repeat (first | refine zz ?_ _ | refine zj ?_ | refine zq ?_ _));exact BK101.out) hkp (fun hs_ => (fun e_ => (Kd.R_away HO_9.out (fun _ hk => hk)) e_) hs_));have n2_ := qq.mk (hb);clear HO_9;clear BK101;clear HB;have HO_9 := n0_;have BK101 := n1_;have HB := n2_;clear n0_ n1_ n2_;(try clear hb);(try clear hkp);(try clear hy0)) | ((with_reducible refine jv (f := 16) rfl ?_);refine goesL_ (some 66) rfl rfl Try.func16 (by kernel_rfl) rfl #[.slice Ao44 t111.length co44] rfl (by (try simp only [List.map_toArray,List.map_cons,List.map_nil]);first | done | (rw [show t111.length = x9_2.length from (Kd.R_reads' HO_9.out).1.symm] <;> rfl) | rfl | (simp only [List.length_drop,List.length_take];rfl)) ?_;(with_reducible refine (kx.calls k2 _ _ t111 false _ ?side1 ?side2 A39.out).mono ?_);(case side1 => repeat (first | exact (Kd.R_reads' HO_9.out).2.2 | (with_reducible refine Kd.C_alloc ?_ _) | (with_reducible refine Kd.C_drewN ?_ _) | (with_reducible refine Kd.C_drew ?_)));(case side2 => rw [show t111.length = x9_2.length from (Kd.R_reads' HO_9.out).1.symm];exact (Kd.R_reads' HO_9.out).2.1);rintro e w46 ⟨rfl,hb⟩;refine ⟨_,rfl,?_⟩;have n0_ := qq.mk (Kd.R_below (by (with_reducible repeat (first | apply Kd.jq | apply Kd.zx | apply Kd.jz));exact HO_9.out) hb);have n1_ := qq.mk (kj (g := gb101) (o := .cells #[.string a1_0,.int .i64 a1_1,.int .i64 a1_2,.int .i64 a1_3] 53 (0,0)) (by (with_reducible repeat (first | refine zz ?_ _ | refine zj ?_ | refine zq ?_ _));exact BK101.out) hb);have n2_ := qq.mk (zv (by repeat (first | (with_reducible first | exact HB.out | apply qj | apply qz | apply qk | refine qx ?_ GE101.out) | exact HB.out)) hb);clear HO_9;clear BK101;clear HB;have HO_9 := n0_;have BK101 := n1_;have HB := n2_;clear n0_ n1_ n2_;(try clear hb);(try clear hb2);(try clear hk);(try clear hi)))
        go_ret
        exact ⟨_,by first | rfl | (simp [*,jk,jj] <;> rfl),by first | exact Kd.R_nil _ _ _ _ _ | exact Kd.N_nil _ _ _ _ _ | exact Kd.V_nil _ _ _ _ _ | exact Kd.Q_nil _ _ _ _ _ | exact Kd.S_nil _ _ _ _ _,by repeat (first | (with_reducible first | exact HB.out | apply qj | apply qz | apply qk | refine qx ?_ GE101.out) | exact HB.out)⟩
end Go.Proofs.Ytakocdkcfjkmdaa.Pr
namespace Go.Proofs.Ytakocdkcfjkmdaa.Pr
open Go.RowKit Go.Proofs.YtakocdkcfjkmdaaW.PrintWords Go.Proofs.YtakocdkcfjkmdaaW.PrintLast Go.Proofs.YtakocdkcfjkmdaaW.PrintMore
attribute [local go_sem] max2_int min2_int max_two min_two max_three min_three max_four min_four
set_option linter.unusedVariables false
set_option linter.unusedSimpArgs false
def xq.f (a0_0 : ByteArray) (a0_1 : Int) (a0_2 : Int) (a0_3 : Int) (a1 : Int) : Option (Int) := if (wrap64 (a1 - (a0_0.size : Int))) < 0 then (some (-1)) else (some (wrap64 (a1 - (a0_0.size : Int))))
set_option maxHeartbeats 8000000 in
set_option maxRecDepth 100000 in
theorem xq.calls (a0_0 : ByteArray) (a0_1 : Int) (a0_2 : Int) (a0_3 : Int) (a1 : Int) (r : Int) (w : World) (h : xq.f a0_0 a0_1 a0_2 a0_3 a1 = some r) :
  Calls Try.prog 23 #[.agg #[.string a0_0,.int .i64 a0_1,.int .i64 a0_2,.int .i64 a0_3],.int .i64 a1] w fun e w' => e = .returned (.int .i64 r) ∧ Below w.heap.size w w' := by
 have hu50 := Try.underlying50
 have HB := qq.mk (Below.refl w.heap.size w)
 have H : (if (wrap64 (a1 - (a0_0.size : Int))) < 0 then (some (-1)) else (some (wrap64 (a1 - (a0_0.size : Int))))) = some r := h
 clear h
 by_cases c3 : (wrap64 (a1 - (a0_0.size : Int))) < 0
 ·rw [if_pos c3] at H
  have c3b0 : decide ((wrap64 (a1 - (a0_0.size : Int))) < 0) = true := decide_eq_true c3
  clear c3
  obtain rfl := Option.some.inj H
  go_enter Try.func23,Try.ntmps23
  go_wp2_with (first | ((with_reducible refine gate_dst (N := 2) rfl ?_);refine box_event ?hg (N := 2) ?hd (cs := #[.string a0_0,.int .i64 a0_1,.int .i64 a0_2,.int .i64 a0_3]) (t := 50) ?hr ?_;(case hd => rfl);(case hg => rfl);(case hr => first | (go_simp;done) | (go_simp;rfl));intro gb101 hg w4 hbox hb;have n0_ := qq.mk (zv (by repeat (first | (with_reducible first | exact HB.out | apply qj | apply qz | apply qk) | exact HB.out)) hb);have n1_ := qq.mk (hbox);have n2_ := qq.mk ((by rw [hg];exact (zw (by repeat (first | (with_reducible first | exact HB.out | apply qj | apply qz | apply qk) | exact HB.out))) : w.heap.size ≤ gb101));have n3_ := qq.mk ((by rw [hg];exact (zw (by repeat (first | (with_reducible first | exact HB.out | apply qj | apply qz | apply qk) | exact HB.out))) : w.heap.size ≤ gb101));clear HB;have HB := n0_;have BK101 := n1_;have GW101 := n2_;have GE101 := n3_;clear n0_ n1_ n2_ n3_;clear hb hbox hg;have hcz5_0 : w4.cell? ⟨gb101,0,none⟩ = some (.string a0_0) := (qw BK101.out 0).trans rfl;have hcz5_1 : w4.cell? ⟨gb101,1,none⟩ = some (.int .i64 a0_1) := (qw BK101.out 1).trans rfl;have hcz5_2 : w4.cell? ⟨gb101,2,none⟩ = some (.int .i64 a0_2) := (qw BK101.out 2).trans rfl;have hcz5_3 : w4.cell? ⟨gb101,3,none⟩ = some (.int .i64 a0_3) := (qw BK101.out 3).trans rfl;have hfz5_0 := qv BK101.out 0;have hfz5_1 := qv BK101.out 1;have hfz5_2 := qv BK101.out 2;have hfz5_3 := qv BK101.out 3))
  go_ret
  exact ⟨by first | rfl | (simp [*,jk,jj] <;> rfl),by repeat (first | (with_reducible first | exact HB.out | apply qj | apply qz | apply qk | refine qx ?_ GE101.out) | exact HB.out)⟩
 ·rw [if_neg c3] at H
  have c3b0 : decide ((wrap64 (a1 - (a0_0.size : Int))) < 0) = false := decide_eq_false c3
  clear c3
  obtain rfl := Option.some.inj H
  go_enter Try.func23,Try.ntmps23
  go_wp2_with (first | ((with_reducible refine gate_dst (N := 2) rfl ?_);refine box_event ?hg (N := 2) ?hd (cs := #[.string a0_0,.int .i64 a0_1,.int .i64 a0_2,.int .i64 a0_3]) (t := 50) ?hr ?_;(case hd => rfl);(case hg => rfl);(case hr => first | (go_simp;done) | (go_simp;rfl));intro gb101 hg w6 hbox hb;have n0_ := qq.mk (zv (by repeat (first | (with_reducible first | exact HB.out | apply qj | apply qz | apply qk) | exact HB.out)) hb);have n1_ := qq.mk (hbox);have n2_ := qq.mk ((by rw [hg];exact (zw (by repeat (first | (with_reducible first | exact HB.out | apply qj | apply qz | apply qk) | exact HB.out))) : w.heap.size ≤ gb101));have n3_ := qq.mk ((by rw [hg];exact (zw (by repeat (first | (with_reducible first | exact HB.out | apply qj | apply qz | apply qk) | exact HB.out))) : w.heap.size ≤ gb101));clear HB;have HB := n0_;have BK101 := n1_;have GW101 := n2_;have GE101 := n3_;clear n0_ n1_ n2_ n3_;clear hb hbox hg;have hcz7_0 : w6.cell? ⟨gb101,0,none⟩ = some (.string a0_0) := (qw BK101.out 0).trans rfl;have hcz7_1 : w6.cell? ⟨gb101,1,none⟩ = some (.int .i64 a0_1) := (qw BK101.out 1).trans rfl;have hcz7_2 : w6.cell? ⟨gb101,2,none⟩ = some (.int .i64 a0_2) := (qw BK101.out 2).trans rfl;have hcz7_3 : w6.cell? ⟨gb101,3,none⟩ = some (.int .i64 a0_3) := (qw BK101.out 3).trans rfl;have hfz7_0 := qv BK101.out 0;have hfz7_1 := qv BK101.out 1;have hfz7_2 := qv BK101.out 2;have hfz7_3 := qv BK101.out 3))
  go_ret
  exact ⟨by first | rfl | (simp [*,jk,jj] <;> rfl),by repeat (first | (with_reducible first | exact HB.out | apply qj | apply qz | apply qk | refine qx ?_ GE101.out) | exact HB.out)⟩
def xj.f (a0_0 : ByteArray) (a0_1 : Int) (a0_2 : Int) (a0_3 : Int) : Option (ByteArray × Int × Int × Int) := some (a0_0,a0_1,a0_2,a0_3)
set_option maxHeartbeats 8000000 in
set_option maxRecDepth 100000 in
theorem xj.calls (a0_0 : ByteArray) (a0_1 : Int) (a0_2 : Int) (a0_3 : Int) (r1 : ByteArray) (r2 : Int) (r3 : Int) (r4 : Int) (w : World) (h : xj.f a0_0 a0_1 a0_2 a0_3 = some (r1,r2,r3,r4)) :
  Calls Try.prog 25 #[.agg #[.string a0_0,.int .i64 a0_1,.int .i64 a0_2,.int .i64 a0_3]] w fun e w' => e = .returned (.agg #[.string r1,.int .i64 r2,.int .i64 r3,.int .i64 r4]) ∧ Below w.heap.size w w' := by
 have hu50 := Try.underlying50
 have hu53 := Try.underlying53
 have HB := qq.mk (Below.refl w.heap.size w)
 have H : (some (a0_0,a0_1,a0_2,a0_3)) = some (r1,r2,r3,r4) := h
 clear h
 simp only [Option.some.injEq,Prod.mk.injEq] at H
 obtain ⟨rfl,rfl,rfl,rfl⟩ := H
 go_enter Try.func25,Try.ntmps25
 go_wp2_with (first | ((with_reducible refine gate_dst (N := 1) rfl ?_);refine box_event ?hg (N := 1) ?hd (cs := #[.string a0_0,.int .i64 a0_1,.int .i64 a0_2,.int .i64 a0_3]) (t := 50) ?hr ?_;(case hd => rfl);(case hg => rfl);(case hr => first | (go_simp;done) | (go_simp;rfl));intro gb101 hg w2 hbox hb;have n0_ := qq.mk (zv (by repeat (first | (with_reducible first | exact HB.out | apply qj | apply qz | apply qk) | exact HB.out)) hb);have n1_ := qq.mk (hbox);have n2_ := qq.mk ((by rw [hg];exact (zw (by repeat (first | (with_reducible first | exact HB.out | apply qj | apply qz | apply qk) | exact HB.out))) : w.heap.size ≤ gb101));have n3_ := qq.mk ((by rw [hg];exact (zw (by repeat (first | (with_reducible first | exact HB.out | apply qj | apply qz | apply qk) | exact HB.out))) : w.heap.size ≤ gb101));clear HB;have HB := n0_;have BK101 := n1_;have GW101 := n2_;have GE101 := n3_;clear n0_ n1_ n2_ n3_;clear hb hbox hg) | ((with_reducible refine gate_dst (N := 2) rfl ?_);refine box_event ?hg (N := 2) ?hd (cs := #[.string (⟨#[]⟩ : ByteArray),.int .i64 0,.int .i64 0,.int .i64 0]) (t := 53) ?hr ?_;(case hd => rfl);(case hg => rfl);(case hr => first | (go_simp;done) | (go_simp;rfl));intro gb102 hg w3 hbox hb;have n0_ := qq.mk (kj (g := gb101) (o := .cells #[.string a0_0,.int .i64 a0_1,.int .i64 a0_2,.int .i64 a0_3] 50 (0,0)) (by (with_reducible repeat (first | refine zz ?_ _ | refine zj ?_ | refine zq ?_ _));exact BK101.out) hb);have n1_ := qq.mk (zv (by repeat (first | (with_reducible first | exact HB.out | apply qj | apply qz | apply qk | refine qx ?_ GE101.out) | exact HB.out)) hb);have n2_ := qq.mk (hbox);have n3_ := qq.mk ((by rw [hg];exact (zw (by repeat (first | (with_reducible first | exact HB.out | apply qj | apply qz | apply qk | refine qx ?_ GE101.out) | exact HB.out))) : w.heap.size ≤ gb102));have n4_ := qq.mk ((by rw [hg];exact (zw (by repeat (first | (with_reducible first | exact HB.out | apply qj | apply qz | apply qk | refine qx ?_ GE101.out) | exact HB.out))) : w.heap.size ≤ gb102));have n5_ := qq.mk ((by rw [hg];exact Nat.ne_of_lt (blk_lt (g := gb101) (o := .cells #[.string a0_0,.int .i64 a0_1,.int .i64 a0_2,.int .i64 a0_3] 50 (0,0)) (by (with_reducible repeat (first | refine zz ?_ _ | refine zj ?_ | refine zq ?_ _));exact BK101.out)) : gb101 ≠ gb102));have n6_ := qq.mk ((by rw [hg];exact Nat.ne_of_gt (blk_lt (g := gb101) (o := .cells #[.string a0_0,.int .i64 a0_1,.int .i64 a0_2,.int .i64 a0_3] 50 (0,0)) (by (with_reducible repeat (first | refine zz ?_ _ | refine zj ?_ | refine zq ?_ _));exact BK101.out)) : gb102 ≠ gb101));clear BK101;clear HB;have BK101 := n0_;have HB := n1_;have BK102 := n2_;have GW102 := n3_;have GE102 := n4_;have NB101_102 := n5_;have NB102_101 := n6_;clear n0_ n1_ n2_ n3_ n4_ n5_ n6_;clear hb hbox hg) | ((with_reducible refine gate_dst (N := 3) rfl ?_);refine box_event ?hg (N := 3) ?hd (cs := #[.string (⟨#[]⟩ : ByteArray),.int .i64 0,.int .i64 0,.int .i64 0]) (t := 53) ?hr ?_;(case hd => rfl);(case hg => rfl);(case hr => first | (go_simp;done) | (go_simp;rfl));intro gb103 hg w4 hbox hb;have n0_ := qq.mk (kj (g := gb101) (o := .cells #[.string a0_0,.int .i64 a0_1,.int .i64 a0_2,.int .i64 a0_3] 50 (0,0)) (by (with_reducible repeat (first | refine zz ?_ _ | refine zj ?_ | refine zq ?_ _));exact BK101.out) hb);have n1_ := qq.mk (kj (g := gb102) (o := .cells #[.string (⟨#[]⟩ : ByteArray),.int .i64 0,.int .i64 0,.int .i64 0] 53 (0,0)) (by (with_reducible repeat (first | refine zz ?_ _ | refine zj ?_ | refine zq ?_ _));exact BK102.out) hb);have n2_ := qq.mk (zv (by repeat (first | (with_reducible first | exact HB.out | apply qj | apply qz | apply qk | refine qx ?_ GE101.out | refine qx ?_ GE102.out) | exact HB.out)) hb);have n3_ := qq.mk (hbox);have n4_ := qq.mk ((by rw [hg];exact (zw (by repeat (first | (with_reducible first | exact HB.out | apply qj | apply qz | apply qk | refine qx ?_ GE101.out | refine qx ?_ GE102.out) | exact HB.out))) : w.heap.size ≤ gb103));have n5_ := qq.mk ((by rw [hg];exact (zw (by repeat (first | (with_reducible first | exact HB.out | apply qj | apply qz | apply qk | refine qx ?_ GE101.out | refine qx ?_ GE102.out) | exact HB.out))) : w.heap.size ≤ gb103));have n6_ := qq.mk ((by rw [hg];exact Nat.ne_of_lt (blk_lt (g := gb101) (o := .cells #[.string a0_0,.int .i64 a0_1,.int .i64 a0_2,.int .i64 a0_3] 50 (0,0)) (by (with_reducible repeat (first | refine zz ?_ _ | refine zj ?_ | refine zq ?_ _));exact BK101.out)) : gb101 ≠ gb103));have n7_ := qq.mk ((by rw [hg];exact Nat.ne_of_gt (blk_lt (g := gb101) (o := .cells #[.string a0_0,.int .i64 a0_1,.int .i64 a0_2,.int .i64 a0_3] 50 (0,0)) (by (with_reducible repeat (first | refine zz ?_ _ | refine zj ?_ | refine zq ?_ _));exact BK101.out)) : gb103 ≠ gb101));have n8_ := qq.mk ((by rw [hg];exact Nat.ne_of_lt (blk_lt (g := gb102) (o := .cells #[.string (⟨#[]⟩ : ByteArray),.int .i64 0,.int .i64 0,.int .i64 0] 53 (0,0)) (by (with_reducible repeat (first | refine zz ?_ _ | refine zj ?_ | refine zq ?_ _));exact BK102.out)) : gb102 ≠ gb103));have n9_ := qq.mk ((by rw [hg];exact Nat.ne_of_gt (blk_lt (g := gb102) (o := .cells #[.string (⟨#[]⟩ : ByteArray),.int .i64 0,.int .i64 0,.int .i64 0] 53 (0,0)) (by (with_reducible repeat (first | refine zz ?_ _ | refine zj ?_ | refine zq ?_ _));exact BK102.out)) : gb103 ≠ gb102));clear BK101;clear BK102;clear HB;have BK101 := n0_;have BK102 := n1_;have HB := n2_;have BK103 := n3_;have GW103 := n4_;have GE103 := n5_;have NB101_103 := n6_;have NB103_101 := n7_;have NB102_103 := n8_;have NB103_102 := n9_;clear n0_ n1_ n2_ n3_ n4_ n5_ n6_ n7_ n8_ n9_;clear hb hbox hg;have hnb5 := NB101_102.out;have hnc5 := NB102_101.out;have hnb6 := NB101_103.out;have hnc6 := NB103_101.out;have hcz7_0 : w4.cell? ⟨gb101,0,none⟩ = some (.string a0_0) := (qw BK101.out 0).trans rfl;have hcz7_1 : w4.cell? ⟨gb101,1,none⟩ = some (.int .i64 a0_1) := (qw BK101.out 1).trans rfl;have hcz7_2 : w4.cell? ⟨gb101,2,none⟩ = some (.int .i64 a0_2) := (qw BK101.out 2).trans rfl;have hcz7_3 : w4.cell? ⟨gb101,3,none⟩ = some (.int .i64 a0_3) := (qw BK101.out 3).trans rfl;have hfz7_0 := qv BK101.out 0;have hfz7_1 := qv BK101.out 1;have hfz7_2 := qv BK101.out 2;have hfz7_3 := qv BK101.out 3;have hnb8 := NB103_102.out;have hnc8 := NB102_103.out;have hcz9_0 : w4.cell? ⟨gb103,0,none⟩ = some (.string (⟨#[]⟩ : ByteArray)) := (qw BK103.out 0).trans rfl;have hcz9_1 : w4.cell? ⟨gb103,1,none⟩ = some (.int .i64 0) := (qw BK103.out 1).trans rfl;have hcz9_2 : w4.cell? ⟨gb103,2,none⟩ = some (.int .i64 0) := (qw BK103.out 2).trans rfl;have hcz9_3 : w4.cell? ⟨gb103,3,none⟩ = some (.int .i64 0) := (qw BK103.out 3).trans rfl;have hfz9_0 := qv BK103.out 0;have hfz9_1 := qv BK103.out 1;have hfz9_2 := qv BK103.out 2;have hfz9_3 := qv BK103.out 3;have hcz10_0 : w4.cell? ⟨gb102,0,none⟩ = some (.string (⟨#[]⟩ : ByteArray)) := (qw BK102.out 0).trans rfl;have hcz10_1 : w4.cell? ⟨gb102,1,none⟩ = some (.int .i64 0) := (qw BK102.out 1).trans rfl;have hcz10_2 : w4.cell? ⟨gb102,2,none⟩ = some (.int .i64 0) := (qw BK102.out 2).trans rfl;have hcz10_3 : w4.cell? ⟨gb102,3,none⟩ = some (.int .i64 0) := (qw BK102.out 3).trans rfl;have hfz10_0 := qv BK102.out 0;have hfz10_1 := qv BK102.out 1;have hfz10_2 := qv BK102.out 2;have hfz10_3 := qv BK102.out 3))
 refine bodyPost_ret (results_cell_row rfl _ _ gb102 53 #[.string a0_0,.int .i64 a0_1,.int .i64 a0_2,.int .i64 a0_3] (0,0) _ rfl (by (with_reducible repeat (first | refine zz ?_ _ | refine zj ?_ | refine zq ?_ _));refine blk_put (cs := #[.string a0_0,.int .i64 a0_1,.int .i64 a0_2,.int .i64 0]) ?_ 3 _ rfl;(with_reducible repeat (first | refine zz ?_ _ | refine zj ?_ | refine zq ?_ _));refine blk_put (cs := #[.string a0_0,.int .i64 a0_1,.int .i64 0,.int .i64 0]) ?_ 2 _ rfl;(with_reducible repeat (first | refine zz ?_ _ | refine zj ?_ | refine zq ?_ _));refine blk_put (cs := #[.string a0_0,.int .i64 0,.int .i64 0,.int .i64 0]) ?_ 1 _ rfl;(with_reducible repeat (first | refine zz ?_ _ | refine zj ?_ | refine zq ?_ _));refine blk_put (cs := #[.string (⟨#[]⟩ : ByteArray),.int .i64 0,.int .i64 0,.int .i64 0]) ?_ 0 _ rfl;(with_reducible repeat (first | refine zz ?_ _ | refine zj ?_ | refine zq ?_ _));refine blk_far ?_ NB102_103.out _;(with_reducible repeat (first | refine zz ?_ _ | refine zj ?_ | refine zq ?_ _));refine blk_far ?_ NB102_103.out _;(with_reducible repeat (first | refine zz ?_ _ | refine zj ?_ | refine zq ?_ _));refine blk_far ?_ NB102_103.out _;(with_reducible repeat (first | refine zz ?_ _ | refine zj ?_ | refine zq ?_ _));refine blk_far ?_ NB102_103.out _;(with_reducible repeat (first | refine zz ?_ _ | refine zj ?_ | refine zq ?_ _));exact BK102.out) Try.underlying53 rfl (by kernel_rfl)) rfl ?_
 exact ⟨by first | rfl | (simp [*,jk,jj] <;> rfl),by repeat (first | (with_reducible first | exact HB.out | apply qj | apply qz | apply qk | refine qx ?_ GE101.out | refine qx ?_ GE102.out | refine qx ?_ GE103.out) | exact HB.out)⟩
def wj.f (a0_0 : ByteArray) (a0_1 : Int) (a0_2 : Int) (a0_3 : Int) (a1_0 : ByteArray) (a1_1 : Int) (a1_2 : Int) (a1_3 : Int) : Option (Bool) := if a0_0.toList = a1_0.toList then (if a0_1 = a1_1 then (if a0_2 = a1_2 then (if a0_3 = a1_3 then (some true) else (some false)) else (some false)) else (some false)) else (some false)
set_option maxHeartbeats 8000000 in
set_option maxRecDepth 100000 in
theorem wj.calls (a0_0 : ByteArray) (a0_1 : Int) (a0_2 : Int) (a0_3 : Int) (a1_0 : ByteArray) (a1_1 : Int) (a1_2 : Int) (a1_3 : Int) (r : Bool) (w : World) (h : wj.f a0_0 a0_1 a0_2 a0_3 a1_0 a1_1 a1_2 a1_3 = some r) :
  Calls Try.prog 42 #[.agg #[.string a0_0,.int .i64 a0_1,.int .i64 a0_2,.int .i64 a0_3],.agg #[.string a1_0,.int .i64 a1_1,.int .i64 a1_2,.int .i64 a1_3]] w fun e w' => e = .returned (.bool r) ∧ Below w.heap.size w w' := by
 have hu53 := Try.underlying53
 have HB := qq.mk (Below.refl w.heap.size w)
 have H : (if a0_0.toList = a1_0.toList then (if a0_1 = a1_1 then (if a0_2 = a1_2 then (if a0_3 = a1_3 then (some true) else (some false)) else (some false)) else (some false)) else (some false)) = some r := h
 clear h
 by_cases c3 : a0_0.toList = a1_0.toList
 ·rw [if_pos c3] at H
  have c3b0 : (a0_0.toList == a1_0.toList) = true := beq_iff_eq.mpr c3
  have c3b1 : (a0_0.toList != a1_0.toList) = false := bne_eq_false_iff_eq.mpr c3
  clear c3
  by_cases c4 : a0_1 = a1_1
  ·rw [if_pos c4] at H
   have c4b0 : (a0_1 == a1_1) = true := beq_iff_eq.mpr c4
   have c4b1 : (a0_1 != a1_1) = false := bne_eq_false_iff_eq.mpr c4
   clear c4
   by_cases c5 : a0_2 = a1_2
   ·rw [if_pos c5] at H
    have c5b0 : (a0_2 == a1_2) = true := beq_iff_eq.mpr c5
    have c5b1 : (a0_2 != a1_2) = false := bne_eq_false_iff_eq.mpr c5
    clear c5
    by_cases c6 : a0_3 = a1_3
    ·rw [if_pos c6] at H
     have c6b0 : (a0_3 == a1_3) = true := beq_iff_eq.mpr c6
     have c6b1 : (a0_3 != a1_3) = false := bne_eq_false_iff_eq.mpr c6
     clear c6
     obtain rfl := Option.some.inj H
     go_enter Try.func42,Try.ntmps42
     go_wp2_with (first | ((with_reducible refine gate_dst (N := 2) rfl ?_);refine box_event ?hg (N := 2) ?hd (cs := #[.string a0_0,.int .i64 a0_1,.int .i64 a0_2,.int .i64 a0_3]) (t := 53) ?hr ?_;(case hd => rfl);(case hg => rfl);(case hr => first | (go_simp;done) | (go_simp;rfl));intro gb101 hg w7 hbox hb;have n0_ := qq.mk (zv (by repeat (first | (with_reducible first | exact HB.out | apply qj | apply qz | apply qk) | exact HB.out)) hb);have n1_ := qq.mk (hbox);have n2_ := qq.mk ((by rw [hg];exact (zw (by repeat (first | (with_reducible first | exact HB.out | apply qj | apply qz | apply qk) | exact HB.out))) : w.heap.size ≤ gb101));have n3_ := qq.mk ((by rw [hg];exact (zw (by repeat (first | (with_reducible first | exact HB.out | apply qj | apply qz | apply qk) | exact HB.out))) : w.heap.size ≤ gb101));clear HB;have HB := n0_;have BK101 := n1_;have GW101 := n2_;have GE101 := n3_;clear n0_ n1_ n2_ n3_;clear hb hbox hg) | ((with_reducible refine gate_dst (N := 3) rfl ?_);refine box_event ?hg (N := 3) ?hd (cs := #[.string a1_0,.int .i64 a1_1,.int .i64 a1_2,.int .i64 a1_3]) (t := 53) ?hr ?_;(case hd => rfl);(case hg => rfl);(case hr => first | (go_simp;done) | (go_simp;rfl));intro gb102 hg w8 hbox hb;have n0_ := qq.mk (kj (g := gb101) (o := .cells #[.string a0_0,.int .i64 a0_1,.int .i64 a0_2,.int .i64 a0_3] 53 (0,0)) (by (with_reducible repeat (first | refine zz ?_ _ | refine zj ?_ | refine zq ?_ _));exact BK101.out) hb);have n1_ := qq.mk (zv (by repeat (first | (with_reducible first | exact HB.out | apply qj | apply qz | apply qk | refine qx ?_ GE101.out) | exact HB.out)) hb);have n2_ := qq.mk (hbox);have n3_ := qq.mk ((by rw [hg];exact (zw (by repeat (first | (with_reducible first | exact HB.out | apply qj | apply qz | apply qk | refine qx ?_ GE101.out) | exact HB.out))) : w.heap.size ≤ gb102));have n4_ := qq.mk ((by rw [hg];exact (zw (by repeat (first | (with_reducible first | exact HB.out | apply qj | apply qz | apply qk | refine qx ?_ GE101.out) | exact HB.out))) : w.heap.size ≤ gb102));have n5_ := qq.mk ((by rw [hg];exact Nat.ne_of_lt (blk_lt (g := gb101) (o := .cells #[.string a0_0,.int .i64 a0_1,.int .i64 a0_2,.int .i64 a0_3] 53 (0,0)) (by (with_reducible repeat (first | refine zz ?_ _ | refine zj ?_ | refine zq ?_ _));exact BK101.out)) : gb101 ≠ gb102));have n6_ := qq.mk ((by rw [hg];exact Nat.ne_of_gt (blk_lt (g := gb101) (o := .cells #[.string a0_0,.int .i64 a0_1,.int .i64 a0_2,.int .i64 a0_3] 53 (0,0)) (by (with_reducible repeat (first | refine zz ?_ _ | refine zj ?_ | refine zq ?_ _));exact BK101.out)) : gb102 ≠ gb101));clear BK101;clear HB;have BK101 := n0_;have HB := n1_;have BK102 := n2_;have GW102 := n3_;have GE102 := n4_;have NB101_102 := n5_;have NB102_101 := n6_;clear n0_ n1_ n2_ n3_ n4_ n5_ n6_;clear hb hbox hg;have hnb9 := NB101_102.out;have hnc9 := NB102_101.out;have hcz10_0 : w8.cell? ⟨gb101,0,none⟩ = some (.string a0_0) := (qw BK101.out 0).trans rfl;have hcz10_1 : w8.cell? ⟨gb101,1,none⟩ = some (.int .i64 a0_1) := (qw BK101.out 1).trans rfl;have hcz10_2 : w8.cell? ⟨gb101,2,none⟩ = some (.int .i64 a0_2) := (qw BK101.out 2).trans rfl;have hcz10_3 : w8.cell? ⟨gb101,3,none⟩ = some (.int .i64 a0_3) := (qw BK101.out 3).trans rfl;have hfz10_0 := qv BK101.out 0;have hfz10_1 := qv BK101.out 1;have hfz10_2 := qv BK101.out 2;have hfz10_3 := qv BK101.out 3;have hcz11_0 : w8.cell? ⟨gb102,0,none⟩ = some (.string a1_0) := (qw BK102.out 0).trans rfl;have hcz11_1 : w8.cell? ⟨gb102,1,none⟩ = some (.int .i64 a1_1) := (qw BK102.out 1).trans rfl;have hcz11_2 : w8.cell? ⟨gb102,2,none⟩ = some (.int .i64 a1_2) := (qw BK102.out 2).trans rfl;have hcz11_3 : w8.cell? ⟨gb102,3,none⟩ = some (.int .i64 a1_3) := (qw BK102.out 3).trans rfl;have hfz11_0 := qv BK102.out 0;have hfz11_1 := qv BK102.out 1;have hfz11_2 := qv BK102.out 2;have hfz11_3 := qv BK102.out 3))
     go_ret
     exact ⟨by first | rfl | (simp [*,jk,jj] <;> rfl),by repeat (first | (with_reducible first | exact HB.out | apply qj | apply qz | apply qk | refine qx ?_ GE101.out | refine qx ?_ GE102.out) | exact HB.out)⟩
    ·rw [if_neg c6] at H
     have c6b0 : (a0_3 == a1_3) = false := beq_eq_false_iff_ne.mpr c6
     have c6b1 : (a0_3 != a1_3) = true := bne_iff_ne.mpr c6
     obtain rfl := Option.some.inj H
     go_enter Try.func42,Try.ntmps42
     go_wp2_with (first | ((with_reducible refine gate_dst (N := 2) rfl ?_);refine box_event ?hg (N := 2) ?hd (cs := #[.string a0_0,.int .i64 a0_1,.int .i64 a0_2,.int .i64 a0_3]) (t := 53) ?hr ?_;(case hd => rfl);(case hg => rfl);(case hr => first | (go_simp;done) | (go_simp;rfl));intro gb101 hg w12 hbox hb;have n0_ := qq.mk (zv (by repeat (first | (with_reducible first | exact HB.out | apply qj | apply qz | apply qk) | exact HB.out)) hb);have n1_ := qq.mk (hbox);have n2_ := qq.mk ((by rw [hg];exact (zw (by repeat (first | (with_reducible first | exact HB.out | apply qj | apply qz | apply qk) | exact HB.out))) : w.heap.size ≤ gb101));have n3_ := qq.mk ((by rw [hg];exact (zw (by repeat (first | (with_reducible first | exact HB.out | apply qj | apply qz | apply qk) | exact HB.out))) : w.heap.size ≤ gb101));clear HB;have HB := n0_;have BK101 := n1_;have GW101 := n2_;have GE101 := n3_;clear n0_ n1_ n2_ n3_;clear hb hbox hg) | ((with_reducible refine gate_dst (N := 3) rfl ?_);refine box_event ?hg (N := 3) ?hd (cs := #[.string a1_0,.int .i64 a1_1,.int .i64 a1_2,.int .i64 a1_3]) (t := 53) ?hr ?_;(case hd => rfl);(case hg => rfl);(case hr => first | (go_simp;done) | (go_simp;rfl));intro gb102 hg w13 hbox hb;have n0_ := qq.mk (kj (g := gb101) (o := .cells #[.string a0_0,.int .i64 a0_1,.int .i64 a0_2,.int .i64 a0_3] 53 (0,0)) (by (with_reducible repeat (first | refine zz ?_ _ | refine zj ?_ | refine zq ?_ _));exact BK101.out) hb);have n1_ := qq.mk (zv (by repeat (first | (with_reducible first | exact HB.out | apply qj | apply qz | apply qk | refine qx ?_ GE101.out) | exact HB.out)) hb);have n2_ := qq.mk (hbox);have n3_ := qq.mk ((by rw [hg];exact (zw (by repeat (first | (with_reducible first | exact HB.out | apply qj | apply qz | apply qk | refine qx ?_ GE101.out) | exact HB.out))) : w.heap.size ≤ gb102));have n4_ := qq.mk ((by rw [hg];exact (zw (by repeat (first | (with_reducible first | exact HB.out | apply qj | apply qz | apply qk | refine qx ?_ GE101.out) | exact HB.out))) : w.heap.size ≤ gb102));have n5_ := qq.mk ((by rw [hg];exact Nat.ne_of_lt (blk_lt (g := gb101) (o := .cells #[.string a0_0,.int .i64 a0_1,.int .i64 a0_2,.int .i64 a0_3] 53 (0,0)) (by (with_reducible repeat (first | refine zz ?_ _ | refine zj ?_ | refine zq ?_ _));exact BK101.out)) : gb101 ≠ gb102));have n6_ := qq.mk ((by rw [hg];exact Nat.ne_of_gt (blk_lt (g := gb101) (o := .cells #[.string a0_0,.int .i64 a0_1,.int .i64 a0_2,.int .i64 a0_3] 53 (0,0)) (by (with_reducible repeat (first | refine zz ?_ _ | refine zj ?_ | refine zq ?_ _));exact BK101.out)) : gb102 ≠ gb101));clear BK101;clear HB;have BK101 := n0_;have HB := n1_;have BK102 := n2_;have GW102 := n3_;have GE102 := n4_;have NB101_102 := n5_;have NB102_101 := n6_;clear n0_ n1_ n2_ n3_ n4_ n5_ n6_;clear hb hbox hg;have hnb14 := NB101_102.out;have hnc14 := NB102_101.out;have hcz15_0 : w13.cell? ⟨gb101,0,none⟩ = some (.string a0_0) := (qw BK101.out 0).trans rfl;have hcz15_1 : w13.cell? ⟨gb101,1,none⟩ = some (.int .i64 a0_1) := (qw BK101.out 1).trans rfl;have hcz15_2 : w13.cell? ⟨gb101,2,none⟩ = some (.int .i64 a0_2) := (qw BK101.out 2).trans rfl;have hcz15_3 : w13.cell? ⟨gb101,3,none⟩ = some (.int .i64 a0_3) := (qw BK101.out 3).trans rfl;have hfz15_0 := qv BK101.out 0;have hfz15_1 := qv BK101.out 1;have hfz15_2 := qv BK101.out 2;have hfz15_3 := qv BK101.out 3;have hcz16_0 : w13.cell? ⟨gb102,0,none⟩ = some (.string a1_0) := (qw BK102.out 0).trans rfl;have hcz16_1 : w13.cell? ⟨gb102,1,none⟩ = some (.int .i64 a1_1) := (qw BK102.out 1).trans rfl;have hcz16_2 : w13.cell? ⟨gb102,2,none⟩ = some (.int .i64 a1_2) := (qw BK102.out 2).trans rfl;have hcz16_3 : w13.cell? ⟨gb102,3,none⟩ = some (.int .i64 a1_3) := (qw BK102.out 3).trans rfl;have hfz16_0 := qv BK102.out 0;have hfz16_1 := qv BK102.out 1;have hfz16_2 := qv BK102.out 2;have hfz16_3 := qv BK102.out 3))
     go_ret
     exact ⟨by first | rfl | (simp [*,jk,jj] <;> rfl),by repeat (first | (with_reducible first | exact HB.out | apply qj | apply qz | apply qk | refine qx ?_ GE101.out | refine qx ?_ GE102.out) | exact HB.out)⟩
   ·rw [if_neg c5] at H
    have c5b0 : (a0_2 == a1_2) = false := beq_eq_false_iff_ne.mpr c5
    have c5b1 : (a0_2 != a1_2) = true := bne_iff_ne.mpr c5
    obtain rfl := Option.some.inj H
    go_enter Try.func42,Try.ntmps42
    go_wp2_with (first | ((with_reducible refine gate_dst (N := 2) rfl ?_);refine box_event ?hg (N := 2) ?hd (cs := #[.string a0_0,.int .i64 a0_1,.int .i64 a0_2,.int .i64 a0_3]) (t := 53) ?hr ?_;(case hd => rfl);(case hg => rfl);(case hr => first | (go_simp;done) | (go_simp;rfl));intro gb101 hg w17 hbox hb;have n0_ := qq.mk (zv (by repeat (first | (with_reducible first | exact HB.out | apply qj | apply qz | apply qk) | exact HB.out)) hb);have n1_ := qq.mk (hbox);have n2_ := qq.mk ((by rw [hg];exact (zw (by repeat (first | (with_reducible first | exact HB.out | apply qj | apply qz | apply qk) | exact HB.out))) : w.heap.size ≤ gb101));have n3_ := qq.mk ((by rw [hg];exact (zw (by repeat (first | (with_reducible first | exact HB.out | apply qj | apply qz | apply qk) | exact HB.out))) : w.heap.size ≤ gb101));clear HB;have HB := n0_;have BK101 := n1_;have GW101 := n2_;have GE101 := n3_;clear n0_ n1_ n2_ n3_;clear hb hbox hg) | ((with_reducible refine gate_dst (N := 3) rfl ?_);refine box_event ?hg (N := 3) ?hd (cs := #[.string a1_0,.int .i64 a1_1,.int .i64 a1_2,.int .i64 a1_3]) (t := 53) ?hr ?_;(case hd => rfl);(case hg => rfl);(case hr => first | (go_simp;done) | (go_simp;rfl));intro gb102 hg w18 hbox hb;have n0_ := qq.mk (kj (g := gb101) (o := .cells #[.string a0_0,.int .i64 a0_1,.int .i64 a0_2,.int .i64 a0_3] 53 (0,0)) (by (with_reducible repeat (first | refine zz ?_ _ | refine zj ?_ | refine zq ?_ _));exact BK101.out) hb);have n1_ := qq.mk (zv (by repeat (first | (with_reducible first | exact HB.out | apply qj | apply qz | apply qk | refine qx ?_ GE101.out) | exact HB.out)) hb);have n2_ := qq.mk (hbox);have n3_ := qq.mk ((by rw [hg];exact (zw (by repeat (first | (with_reducible first | exact HB.out | apply qj | apply qz | apply qk | refine qx ?_ GE101.out) | exact HB.out))) : w.heap.size ≤ gb102));have n4_ := qq.mk ((by rw [hg];exact (zw (by repeat (first | (with_reducible first | exact HB.out | apply qj | apply qz | apply qk | refine qx ?_ GE101.out) | exact HB.out))) : w.heap.size ≤ gb102));have n5_ := qq.mk ((by rw [hg];exact Nat.ne_of_lt (blk_lt (g := gb101) (o := .cells #[.string a0_0,.int .i64 a0_1,.int .i64 a0_2,.int .i64 a0_3] 53 (0,0)) (by (with_reducible repeat (first | refine zz ?_ _ | refine zj ?_ | refine zq ?_ _));exact BK101.out)) : gb101 ≠ gb102));have n6_ := qq.mk ((by rw [hg];exact Nat.ne_of_gt (blk_lt (g := gb101) (o := .cells #[.string a0_0,.int .i64 a0_1,.int .i64 a0_2,.int .i64 a0_3] 53 (0,0)) (by (with_reducible repeat (first | refine zz ?_ _ | refine zj ?_ | refine zq ?_ _));exact BK101.out)) : gb102 ≠ gb101));clear BK101;clear HB;have BK101 := n0_;have HB := n1_;have BK102 := n2_;have GW102 := n3_;have GE102 := n4_;have NB101_102 := n5_;have NB102_101 := n6_;clear n0_ n1_ n2_ n3_ n4_ n5_ n6_;clear hb hbox hg;have hnb19 := NB101_102.out;have hnc19 := NB102_101.out;have hcz20_0 : w18.cell? ⟨gb101,0,none⟩ = some (.string a0_0) := (qw BK101.out 0).trans rfl;have hcz20_1 : w18.cell? ⟨gb101,1,none⟩ = some (.int .i64 a0_1) := (qw BK101.out 1).trans rfl;have hcz20_2 : w18.cell? ⟨gb101,2,none⟩ = some (.int .i64 a0_2) := (qw BK101.out 2).trans rfl;have hcz20_3 : w18.cell? ⟨gb101,3,none⟩ = some (.int .i64 a0_3) := (qw BK101.out 3).trans rfl;have hfz20_0 := qv BK101.out 0;have hfz20_1 := qv BK101.out 1;have hfz20_2 := qv BK101.out 2;have hfz20_3 := qv BK101.out 3;have hcz21_0 : w18.cell? ⟨gb102,0,none⟩ = some (.string a1_0) := (qw BK102.out 0).trans rfl;have hcz21_1 : w18.cell? ⟨gb102,1,none⟩ = some (.int .i64 a1_1) := (qw BK102.out 1).trans rfl;have hcz21_2 : w18.cell? ⟨gb102,2,none⟩ = some (.int .i64 a1_2) := (qw BK102.out 2).trans rfl;have hcz21_3 : w18.cell? ⟨gb102,3,none⟩ = some (.int .i64 a1_3) := (qw BK102.out 3).trans rfl;have hfz21_0 := qv BK102.out 0;have hfz21_1 := qv BK102.out 1;have hfz21_2 := qv BK102.out 2;have hfz21_3 := qv BK102.out 3))
    go_ret
    exact ⟨by first | rfl | (simp [*,jk,jj] <;> rfl),by repeat (first | (with_reducible first | exact HB.out | apply qj | apply qz | apply qk | refine qx ?_ GE101.out | refine qx ?_ GE102.out) | exact HB.out)⟩
  ·rw [if_neg c4] at H
   have c4b0 : (a0_1 == a1_1) = false := beq_eq_false_iff_ne.mpr c4
   have c4b1 : (a0_1 != a1_1) = true := bne_iff_ne.mpr c4
   obtain rfl := Option.some.inj H
   go_enter Try.func42,Try.ntmps42
   go_wp2_with (first | ((with_reducible refine gate_dst (N := 2) rfl ?_);refine box_event ?hg (N := 2) ?hd (cs := #[.string a0_0,.int .i64 a0_1,.int .i64 a0_2,.int .i64 a0_3]) (t := 53) ?hr ?_;(case hd => rfl);(case hg => rfl);(case hr => first | (go_simp;done) | (go_simp;rfl));intro gb101 hg w22 hbox hb;have n0_ := qq.mk (zv (by repeat (first | (with_reducible first | exact HB.out | apply qj | apply qz | apply qk) | exact HB.out)) hb);have n1_ := qq.mk (hbox);have n2_ := qq.mk ((by rw [hg];exact (zw (by repeat (first | (with_reducible first | exact HB.out | apply qj | apply qz | apply qk) | exact HB.out))) : w.heap.size ≤ gb101));have n3_ := qq.mk ((by rw [hg];exact (zw (by repeat (first | (with_reducible first | exact HB.out | apply qj | apply qz | apply qk) | exact HB.out))) : w.heap.size ≤ gb101));clear HB;have HB := n0_;have BK101 := n1_;have GW101 := n2_;have GE101 := n3_;clear n0_ n1_ n2_ n3_;clear hb hbox hg) | ((with_reducible refine gate_dst (N := 3) rfl ?_);refine box_event ?hg (N := 3) ?hd (cs := #[.string a1_0,.int .i64 a1_1,.int .i64 a1_2,.int .i64 a1_3]) (t := 53) ?hr ?_;(case hd => rfl);(case hg => rfl);(case hr => first | (go_simp;done) | (go_simp;rfl));intro gb102 hg w23 hbox hb;have n0_ := qq.mk (kj (g := gb101) (o := .cells #[.string a0_0,.int .i64 a0_1,.int .i64 a0_2,.int .i64 a0_3] 53 (0,0)) (by (with_reducible repeat (first | refine zz ?_ _ | refine zj ?_ | refine zq ?_ _));exact BK101.out) hb);have n1_ := qq.mk (zv (by repeat (first | (with_reducible first | exact HB.out | apply qj | apply qz | apply qk | refine qx ?_ GE101.out) | exact HB.out)) hb);have n2_ := qq.mk (hbox);have n3_ := qq.mk ((by rw [hg];exact (zw (by repeat (first | (with_reducible first | exact HB.out | apply qj | apply qz | apply qk | refine qx ?_ GE101.out) | exact HB.out))) : w.heap.size ≤ gb102));have n4_ := qq.mk ((by rw [hg];exact (zw (by repeat (first | (with_reducible first | exact HB.out | apply qj | apply qz | apply qk | refine qx ?_ GE101.out) | exact HB.out))) : w.heap.size ≤ gb102));have n5_ := qq.mk ((by rw [hg];exact Nat.ne_of_lt (blk_lt (g := gb101) (o := .cells #[.string a0_0,.int .i64 a0_1,.int .i64 a0_2,.int .i64 a0_3] 53 (0,0)) (by (with_reducible repeat (first | refine zz ?_ _ | refine zj ?_ | refine zq ?_ _));exact BK101.out)) : gb101 ≠ gb102));have n6_ := qq.mk ((by rw [hg];exact Nat.ne_of_gt (blk_lt (g := gb101) (o := .cells #[.string a0_0,.int .i64 a0_1,.int .i64 a0_2,.int .i64 a0_3] 53 (0,0)) (by (with_reducible repeat (first | refine zz ?_ _ | refine zj ?_ | refine zq ?_ _));exact BK101.out)) : gb102 ≠ gb101));clear BK101;clear HB;have BK101 := n0_;have HB := n1_;have BK102 := n2_;have GW102 := n3_;have GE102 := n4_;have NB101_102 := n5_;have NB102_101 := n6_;clear n0_ n1_ n2_ n3_ n4_ n5_ n6_;clear hb hbox hg;have hnb24 := NB101_102.out;have hnc24 := NB102_101.out;have hcz25_0 : w23.cell? ⟨gb101,0,none⟩ = some (.string a0_0) := (qw BK101.out 0).trans rfl;have hcz25_1 : w23.cell? ⟨gb101,1,none⟩ = some (.int .i64 a0_1) := (qw BK101.out 1).trans rfl;have hcz25_2 : w23.cell? ⟨gb101,2,none⟩ = some (.int .i64 a0_2) := (qw BK101.out 2).trans rfl;have hcz25_3 : w23.cell? ⟨gb101,3,none⟩ = some (.int .i64 a0_3) := (qw BK101.out 3).trans rfl;have hfz25_0 := qv BK101.out 0;have hfz25_1 := qv BK101.out 1;have hfz25_2 := qv BK101.out 2;have hfz25_3 := qv BK101.out 3;have hcz26_0 : w23.cell? ⟨gb102,0,none⟩ = some (.string a1_0) := (qw BK102.out 0).trans rfl;have hcz26_1 : w23.cell? ⟨gb102,1,none⟩ = some (.int .i64 a1_1) := (qw BK102.out 1).trans rfl;have hcz26_2 : w23.cell? ⟨gb102,2,none⟩ = some (.int .i64 a1_2) := (qw BK102.out 2).trans rfl;have hcz26_3 : w23.cell? ⟨gb102,3,none⟩ = some (.int .i64 a1_3) := (qw BK102.out 3).trans rfl;have hfz26_0 := qv BK102.out 0;have hfz26_1 := qv BK102.out 1;have hfz26_2 := qv BK102.out 2;have hfz26_3 := qv BK102.out 3))
   go_ret
   exact ⟨by first | rfl | (simp [*,jk,jj] <;> rfl),by repeat (first | (with_reducible first | exact HB.out | apply qj | apply qz | apply qk | refine qx ?_ GE101.out | refine qx ?_ GE102.out) | exact HB.out)⟩
 ·rw [if_neg c3] at H
  have c3b0 : (a0_0.toList == a1_0.toList) = false := beq_eq_false_iff_ne.mpr c3
  have c3b1 : (a0_0.toList != a1_0.toList) = true := bne_iff_ne.mpr c3
  obtain rfl := Option.some.inj H
  go_enter Try.func42,Try.ntmps42
  go_wp2_with (first | ((with_reducible refine gate_dst (N := 2) rfl ?_);refine box_event ?hg (N := 2) ?hd (cs := #[.string a0_0,.int .i64 a0_1,.int .i64 a0_2,.int .i64 a0_3]) (t := 53) ?hr ?_;(case hd => rfl);(case hg => rfl);(case hr => first | (go_simp;done) | (go_simp;rfl));intro gb101 hg w27 hbox hb;have n0_ := qq.mk (zv (by repeat (first | (with_reducible first | exact HB.out | apply qj | apply qz | apply qk) | exact HB.out)) hb);have n1_ := qq.mk (hbox);have n2_ := qq.mk ((by rw [hg];exact (zw (by repeat (first | (with_reducible first | exact HB.out | apply qj | apply qz | apply qk) | exact HB.out))) : w.heap.size ≤ gb101));have n3_ := qq.mk ((by rw [hg];exact (zw (by repeat (first | (with_reducible first | exact HB.out | apply qj | apply qz | apply qk) | exact HB.out))) : w.heap.size ≤ gb101));clear HB;have HB := n0_;have BK101 := n1_;have GW101 := n2_;have GE101 := n3_;clear n0_ n1_ n2_ n3_;clear hb hbox hg) | ((with_reducible refine gate_dst (N := 3) rfl ?_);refine box_event ?hg (N := 3) ?hd (cs := #[.string a1_0,.int .i64 a1_1,.int .i64 a1_2,.int .i64 a1_3]) (t := 53) ?hr ?_;(case hd => rfl);(case hg => rfl);(case hr => first | (go_simp;done) | (go_simp;rfl));intro gb102 hg w28 hbox hb;have n0_ := qq.mk (kj (g := gb101) (o := .cells #[.string a0_0,.int .i64 a0_1,.int .i64 a0_2,.int .i64 a0_3] 53 (0,0)) (by (with_reducible repeat (first | refine zz ?_ _ | refine zj ?_ | refine zq ?_ _));exact BK101.out) hb);have n1_ := qq.mk (zv (by repeat (first | (with_reducible first | exact HB.out | apply qj | apply qz | apply qk | refine qx ?_ GE101.out) | exact HB.out)) hb);have n2_ := qq.mk (hbox);have n3_ := qq.mk ((by rw [hg];exact (zw (by repeat (first | (with_reducible first | exact HB.out | apply qj | apply qz | apply qk | refine qx ?_ GE101.out) | exact HB.out))) : w.heap.size ≤ gb102));have n4_ := qq.mk ((by rw [hg];exact (zw (by repeat (first | (with_reducible first | exact HB.out | apply qj | apply qz | apply qk | refine qx ?_ GE101.out) | exact HB.out))) : w.heap.size ≤ gb102));have n5_ := qq.mk ((by rw [hg];exact Nat.ne_of_lt (blk_lt (g := gb101) (o := .cells #[.string a0_0,.int .i64 a0_1,.int .i64 a0_2,.int .i64 a0_3] 53 (0,0)) (by (with_reducible repeat (first | refine zz ?_ _ | refine zj ?_ | refine zq ?_ _));exact BK101.out)) : gb101 ≠ gb102));have n6_ := qq.mk ((by rw [hg];exact Nat.ne_of_gt (blk_lt (g := gb101) (o := .cells #[.string a0_0,.int .i64 a0_1,.int .i64 a0_2,.int .i64 a0_3] 53 (0,0)) (by (with_reducible repeat (first | refine zz ?_ _ | refine zj ?_ | refine zq ?_ _));exact BK101.out)) : gb102 ≠ gb101));clear BK101;clear HB;have BK101 := n0_;have HB := n1_;have BK102 := n2_;have GW102 := n3_;have GE102 := n4_;have NB101_102 := n5_;have NB102_101 := n6_;clear n0_ n1_ n2_ n3_ n4_ n5_ n6_;clear hb hbox hg;have hnb29 := NB101_102.out;have hnc29 := NB102_101.out;have hcz30_0 : w28.cell? ⟨gb101,0,none⟩ = some (.string a0_0) := (qw BK101.out 0).trans rfl;have hcz30_1 : w28.cell? ⟨gb101,1,none⟩ = some (.int .i64 a0_1) := (qw BK101.out 1).trans rfl;have hcz30_2 : w28.cell? ⟨gb101,2,none⟩ = some (.int .i64 a0_2) := (qw BK101.out 2).trans rfl;have hcz30_3 : w28.cell? ⟨gb101,3,none⟩ = some (.int .i64 a0_3) := (qw BK101.out 3).trans rfl;have hfz30_0 := qv BK101.out 0;have hfz30_1 := qv BK101.out 1;have hfz30_2 := qv BK101.out 2;have hfz30_3 := qv BK101.out 3;have hcz31_0 : w28.cell? ⟨gb102,0,none⟩ = some (.string a1_0) := (qw BK102.out 0).trans rfl;have hcz31_1 : w28.cell? ⟨gb102,1,none⟩ = some (.int .i64 a1_1) := (qw BK102.out 1).trans rfl;have hcz31_2 : w28.cell? ⟨gb102,2,none⟩ = some (.int .i64 a1_2) := (qw BK102.out 2).trans rfl;have hcz31_3 : w28.cell? ⟨gb102,3,none⟩ = some (.int .i64 a1_3) := (qw BK102.out 3).trans rfl;have hfz31_0 := qv BK102.out 0;have hfz31_1 := qv BK102.out 1;have hfz31_2 := qv BK102.out 2;have hfz31_3 := qv BK102.out 3))
  go_ret
  exact ⟨by first | rfl | (simp [*,jk,jj] <;> rfl),by repeat (first | (with_reducible first | exact HB.out | apply qj | apply qz | apply qk | refine qx ?_ GE101.out | refine qx ?_ GE102.out) | exact HB.out)⟩
end Go.Proofs.Ytakocdkcfjkmdaa.Pr
namespace Go.Proofs.Ytakocdkcfjkmdaa.Pr
open Go.RowKit Go.Proofs.YtakocdkcfjkmdaaW.PrintWords Go.Proofs.YtakocdkcfjkmdaaW.PrintLast Go.Proofs.YtakocdkcfjkmdaaW.PrintMore
attribute [local go_sem] max2_int min2_int max_two min_two max_three min_three max_four min_four
set_option linter.unusedVariables false
set_option linter.unusedSimpArgs false
def wx.l0 : Nat → Int → ByteArray → Option (ByteArray)
 | 0,_,_ => none
 | k + 1,x0,x3 => if x0 > 0 then ((some (([(wrap64 (48 + (Int.tmod x0 10))) % 256] : List Int) : List Int)).bind fun y101 => (if (strOfNums y101).size + x3.size ≤ 9223372036854775807 then (wx.l0 k (wrap64 (Int.tdiv x0 10)) ((strOfNums y101) ++ x3)) else (none))) else (if 1 + x3.size ≤ 9223372036854775807 then (some ((⟨#[109]⟩ : ByteArray) ++ x3)) else (none))
def wx.f (k : Nat) (a0 : Int) : Option (ByteArray) := if a0 ≤ 0 then (some (⟨#[109,48]⟩ : ByteArray)) else (wx.l0 k a0 (⟨#[]⟩ : ByteArray))
set_option maxHeartbeats 8000000 in
set_option maxRecDepth 100000 in
theorem wx.calls (k : Nat) (a0 : Int) (r : ByteArray) (w : World) (h : wx.f k a0 = some r) :
  Calls Try.prog 58 #[.int .i64 a0] w fun e w' => e = .returned (.string r) ∧ Below w.heap.size w w' := by
 have HB := qq.mk (Below.refl w.heap.size w)
 have H : (if a0 ≤ 0 then (some (⟨#[109,48]⟩ : ByteArray)) else (wx.l0 k a0 (⟨#[]⟩ : ByteArray))) = some r := h
 clear h
 by_cases c2 : a0 ≤ 0
 ·rw [if_pos c2] at H
  have c2b0 : decide (a0 ≤ 0) = true := decide_eq_true c2
  clear c2
  obtain rfl := Option.some.inj H
  go_enter Try.func58,Try.ntmps58
  go_wp2
  go_ret
  exact ⟨by first | rfl | (simp [*,jk,jj] <;> rfl),by repeat (first | (with_reducible first | exact HB.out | apply qj | apply qz | apply qk) | exact HB.out)⟩
 ·rw [if_neg c2] at H
  have c2b0 : decide (a0 ≤ 0) = false := decide_eq_false c2
  clear c2
  have H' := qq.mk H
  clear H
  go_enter Try.func58,Try.ntmps58
  go_wp2
  go_loopg [0,3] k (fun kq v0 v3 w' => ∃ (x0_1 : Int) (x3_1 : ByteArray),v0 = .int .i64 x0_1 ∧ v3 = .string x3_1 ∧ qq (wx.l0 kq x0_1 x3_1 = some r) ∧ qq (kq ≤ k) ∧ qq (Below w.heap.size w w'))
  case atStart => exact ⟨(a0),((⟨#[]⟩ : ByteArray)),(by first | rfl | (simp;done) | (simp [*];done)),(by first | rfl | (simp;done) | (simp [*];done)),H',⟨Nat.le_refl _⟩,⟨by repeat (first | (with_reducible first | exact HB.out | apply qj | apply qz | apply qk) | exact HB.out)⟩⟩
  case round =>
   clear H'
   try clear c2
   try clear c2b0
   try clear p2
   obtain ⟨x0_1,x3_1,rfl,rfl,HA,HK1,HB⟩ := hrel
   cases gk with
   | zero => exact absurd HA.out (by simp [wx.l0])
   | succ k1 =>
    have H := HA.out
    clear HA
    simp only [wx.l0] at H
    by_cases c3 : x0_1 > 0
    ·rw [if_pos c3] at H
     have c3b0 : decide (0 < x0_1) = true := decide_eq_true c3
     clear c3
     obtain ⟨y101,hy101⟩ : ∃ y_ : List Int,y_ = (([(wrap64 (48 + (Int.tmod x0_1 10))) % 256] : List Int)) := ⟨_,rfl⟩
     replace H : (if (strOfNums y101).size + x3_1.size ≤ 9223372036854775807 then (wx.l0 k1 (wrap64 (Int.tdiv x0_1 10)) ((strOfNums y101) ++ x3_1)) else (none)) = some r := by first | (rw [hy101];with_reducible exact H) | (have H2_ := (Option.bind_some _ _).symm.trans H;rw [hy101];with_reducible exact H2_) | (have H2_ := (Option.bind_some _ _).symm.trans H;with_reducible exact H2_) | with_reducible exact H | (rw [hy101];exact H) | exact H
     have Ny101 := qq.mk hy101
     clear hy101
     by_cases c4 : (strOfNums y101).size + x3_1.size ≤ 9223372036854775807
     ·rw [if_pos c4] at H
      have c4b0 := eq_true c4
      have c4b1 : decide ((strOfNums y101).size + x3_1.size ≤ 9223372036854775807) = true := decide_eq_true c4
      try have c4b2 : (9223372036854775807 < (strOfNums y101).size + x3_1.size) = False := eq_false (Nat.not_lt.2 c4)
      have H' := qq.mk H
      clear H
      go_wp2_with (first | ((with_reducible refine gate_dst (N := 12) rfl ?_);refine Kd.R_lit (Kd.int .u8) _ 5 ?hg (N := 12) ?hd (xs := ([(wrap64 (48 + (Int.tmod x0_1 10))) % 256] : List Int)) (inner := [.int .u8 ((wrap64 (48 + (Int.tmod x0_1 10))) % 256)]) (ok := fun _ => True) (okp := fun _ => True) ?hr ?hp (fun _ hk => hk) trivial (Below.refl _ _) (Nat.le_refl _) (by simp) ?_;(case hd => rfl);(case hg => rfl);(case hr => first | (go_simp;done) | (go_simp;rfl));(case hp => exact (Reps.one (show Kd.M (Kd.int .u8) _ _ _ ((wrap64 (48 + (Int.tmod x0_1 10))) % 256) [.int .u8 ((wrap64 (48 + (Int.tmod x0_1 10))) % 256)] from rfl) (Reps.none _ _)));intro v102 w5 ho6 hb hg_ hnew_;clear hg_ hnew_;(first | rw [← Ny101.out] at ho6 | (simp only [Int.reduceToNat] at ho6;rw [← Ny101.out] at ho6));have n0_ := qq.mk (Kd.R_lower ho6 (zw (by repeat (first | (with_reducible first | exact HB.out | apply qj | apply qz | apply qk) | exact HB.out))));have n1_ := qq.mk (zv (by repeat (first | (with_reducible first | exact HB.out | apply qj | apply qz | apply qk) | exact HB.out)) hb);clear HB;have HO103 := n0_;have HB := n1_;clear n0_ n1_;clear hb ho6;have hcv7 := own_string (P := Try.prog) Try.underlying22 Try.underlying5 Try.underlying9 (Kd.own_of_R HO103.out)))
      go_roundg k1
      case measure => have := HK1.out;omega
      case rel => exact ⟨(wrap64 (Int.tdiv x0_1 10)),((strOfNums y101) ++ x3_1),(by first | rfl | (simp;done) | (simp [*];done)),(by first | rfl | (simp;done) | (simp [*];done)),H',⟨by have := HK1.out;omega⟩,⟨by repeat (first | (with_reducible first | exact HB.out | apply qj | apply qz | apply qk) | exact HB.out)⟩⟩
     ·rw [if_neg c4] at H
      exact absurd H (by simp)
    ·rw [if_neg c3] at H
     have c3b0 : decide (0 < x0_1) = false := decide_eq_false c3
     clear c3
     by_cases c8 : 1 + x3_1.size ≤ 9223372036854775807
     ·rw [if_pos c8] at H
      have c8b0 := eq_true c8
      have c8b1 : decide (1 + x3_1.size ≤ 9223372036854775807) = true := decide_eq_true c8
      try have c8b2 : (9223372036854775807 < 1 + x3_1.size) = False := eq_false (Nat.not_lt.2 c8)
      obtain rfl := Option.some.inj H
      go_wp2
      go_ret
      exact ⟨by first | rfl | (simp [*,jk,jj] <;> rfl),by repeat (first | (with_reducible first | exact HB.out | apply qj | apply qz | apply qk) | exact HB.out)⟩
     ·rw [if_neg c8] at H
      exact absurd H (by simp)
end Go.Proofs.Ytakocdkcfjkmdaa.Pr
