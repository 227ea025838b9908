/- Printed texts, walks and plain facts that the law FnExactGoodServer leans on, joined. -/
import Derived.Test.YtakocdkcfjkmdaaFullFnExactGoodServerC
import Derived.Deep.QuietTactic
import Derived.BigQuiet
import Derived.Laws.Cover1
namespace Go.Proofs.Ytakocdkcfjkmdaa.Pr
open Go.RowKit Go.Proofs.YtakocdkcfjkmdaaW.PrintWords Go.Proofs.YtakocdkcfjkmdaaW.PrintLast Go.Proofs.YtakocdkcfjkmdaaW.PrintMore
attribute [local go_sem] max2_int min2_int max_two min_two max_three min_three max_four min_four
set_option linter.unusedVariables false
set_option linter.unusedSimpArgs false
mutual
def vv.j0 : Nat → Bool → List (S77) → List Int → Int → Int → Option (Bool)
 | 0,_,_,_,_,_ => none
 | k + 1,x34,x102000,x102001,x102002,x102003 => if x34 = true then (some false) else (vv.l0 k x102000 (x102000.length : Int) 0 x102000 x102001 x102002 x102003)
def vv.l0 : Nat → List (S77) → Int → Int → List (S77) → List Int → Int → Int → Option (Bool)
 | 0,_,_,_,_,_,_,_ => none
 | k + 1,x36,x37,x38,x102000,x102001,x102002,x102003 => if x38 < x37 then (if 0 ≤ x38 then (if x38 < (x36.length : Int) then ((wv.f k ((vq x36 x38).f0)).bind fun t104 => (if t104 = true then (if x38 > 0 then (if 0 ≤ (wrap64 (x38 - 1)) then (if (wrap64 (x38 - 1)) < (x102000.length : Int) then (if ((Op.bytesLess (((vq x102000 (wrap64 (x38 - 1))).f0).toList) (((vq x36 x38).f0).toList)) = true) then (if (((vq x36 x38).f1).length : Int) = 0 then (if (((vq x36 x38).f2).length : Int) > 5 then (vv.j2 k x36 x37 x38 true x102000 x102001 x102002 x102003 ((vq x36 x38).f0) ((vq x36 x38).f1) ((vq x36 x38).f2) ((vq x36 x38).f3) ((vq x36 x38).f4)) else ((wk.f k ((vq x36 x38).f3)).bind fun t106 => (if t106 = true then (vv.j2 k x36 x37 x38 (decide ((((vq x36 x38).f4).length : Int) > 4)) x102000 x102001 x102002 x102003 ((vq x36 x38).f0) ((vq x36 x38).f1) ((vq x36 x38).f2) ((vq x36 x38).f3) ((vq x36 x38).f4)) else (vv.j2 k x36 x37 x38 true x102000 x102001 x102002 x102003 ((vq x36 x38).f0) ((vq x36 x38).f1) ((vq x36 x38).f2) ((vq x36 x38).f3) ((vq x36 x38).f4))))) else (if (((vq x36 x38).f1).length : Int) = 16 then (if (((vq x36 x38).f2).length : Int) > 5 then (vv.j2 k x36 x37 x38 true x102000 x102001 x102002 x102003 ((vq x36 x38).f0) ((vq x36 x38).f1) ((vq x36 x38).f2) ((vq x36 x38).f3) ((vq x36 x38).f4)) else ((wk.f k ((vq x36 x38).f3)).bind fun t107 => (if t107 = true then (vv.j2 k x36 x37 x38 (decide ((((vq x36 x38).f4).length : Int) > 4)) x102000 x102001 x102002 x102003 ((vq x36 x38).f0) ((vq x36 x38).f1) ((vq x36 x38).f2) ((vq x36 x38).f3) ((vq x36 x38).f4)) else (vv.j2 k x36 x37 x38 true x102000 x102001 x102002 x102003 ((vq x36 x38).f0) ((vq x36 x38).f1) ((vq x36 x38).f2) ((vq x36 x38).f3) ((vq x36 x38).f4))))) else (vv.j2 k x36 x37 x38 true x102000 x102001 x102002 x102003 ((vq x36 x38).f0) ((vq x36 x38).f1) ((vq x36 x38).f2) ((vq x36 x38).f3) ((vq x36 x38).f4)))) else (vv.j2 k x36 x37 x38 true x102000 x102001 x102002 x102003 ((vq x36 x38).f0) ((vq x36 x38).f1) ((vq x36 x38).f2) ((vq x36 x38).f3) ((vq x36 x38).f4))) else (none)) else (none)) else (if (((vq x36 x38).f1).length : Int) = 0 then (if (((vq x36 x38).f2).length : Int) > 5 then (vv.j2 k x36 x37 x38 true x102000 x102001 x102002 x102003 ((vq x36 x38).f0) ((vq x36 x38).f1) ((vq x36 x38).f2) ((vq x36 x38).f3) ((vq x36 x38).f4)) else ((wk.f k ((vq x36 x38).f3)).bind fun t108 => (if t108 = true then (vv.j2 k x36 x37 x38 (decide ((((vq x36 x38).f4).length : Int) > 4)) x102000 x102001 x102002 x102003 ((vq x36 x38).f0) ((vq x36 x38).f1) ((vq x36 x38).f2) ((vq x36 x38).f3) ((vq x36 x38).f4)) else (vv.j2 k x36 x37 x38 true x102000 x102001 x102002 x102003 ((vq x36 x38).f0) ((vq x36 x38).f1) ((vq x36 x38).f2) ((vq x36 x38).f3) ((vq x36 x38).f4))))) else (if (((vq x36 x38).f1).length : Int) = 16 then (if (((vq x36 x38).f2).length : Int) > 5 then (vv.j2 k x36 x37 x38 true x102000 x102001 x102002 x102003 ((vq x36 x38).f0) ((vq x36 x38).f1) ((vq x36 x38).f2) ((vq x36 x38).f3) ((vq x36 x38).f4)) else ((wk.f k ((vq x36 x38).f3)).bind fun t109 => (if t109 = true then (vv.j2 k x36 x37 x38 (decide ((((vq x36 x38).f4).length : Int) > 4)) x102000 x102001 x102002 x102003 ((vq x36 x38).f0) ((vq x36 x38).f1) ((vq x36 x38).f2) ((vq x36 x38).f3) ((vq x36 x38).f4)) else (vv.j2 k x36 x37 x38 true x102000 x102001 x102002 x102003 ((vq x36 x38).f0) ((vq x36 x38).f1) ((vq x36 x38).f2) ((vq x36 x38).f3) ((vq x36 x38).f4))))) else (vv.j2 k x36 x37 x38 true x102000 x102001 x102002 x102003 ((vq x36 x38).f0) ((vq x36 x38).f1) ((vq x36 x38).f2) ((vq x36 x38).f3) ((vq x36 x38).f4))))) else (vv.j2 k x36 x37 x38 true x102000 x102001 x102002 x102003 ((vq x36 x38).f0) ((vq x36 x38).f1) ((vq x36 x38).f2) ((vq x36 x38).f3) ((vq x36 x38).f4)))) else (none)) else (none)) else (some true)
def vv.j2 : Nat → List (S77) → Int → Int → Bool → List (S77) → List Int → Int → Int → ByteArray → List Int → List ByteArray → List ByteArray → List Int → Option (Bool)
 | 0,_,_,_,_,_,_,_,_,_,_,_,_,_ => none
 | k + 1,x36,x37,x38,x92,x102000,x102001,x102002,x102003,x104000,x104001,x104002,x104003,x104004 => if x92 = true then (some false) else ((has_impl_GoodServer_1.f k x104002).bind fun t110 => (if t110 = true then (some false) else ((has_impl_GoodServer_2.f k x104004).bind fun t111 => (if t111 = true then (some false) else (vv.l0 k x36 x37 (wrap64 (x38 + 1)) x102000 x102001 x102002 x102003)))))
end
def vv.f (k : Nat) (l0_0 : List (S77)) (l0_1 : List Int) (a0_2 : Int) (a0_3 : Int) : Option (Bool) := if (l0_0.length : Int) > 20 then (vv.j0 k true l0_0 l0_1 a0_2 a0_3) else (if (l0_1.length : Int) > 64 then (vv.j0 k true l0_0 l0_1 a0_2 a0_3) else (if a0_2 < 1 then (vv.j0 k true l0_0 l0_1 a0_2 a0_3) else (if a0_2 > 1000000 then (vv.j0 k true l0_0 l0_1 a0_2 a0_3) else (if a0_3 < 1 then (vv.j0 k true l0_0 l0_1 a0_2 a0_3) else (vv.j0 k (decide (a0_3 > 1000000)) l0_0 l0_1 a0_2 a0_3)))))
set_option maxHeartbeats 8000000 in
set_option maxRecDepth 100000 in
theorem vv.calls (k : Nat) (A0_0 : Option Addr) (c0_0 : Nat) (l0_0 : List (S77)) (A0_1 : Option Addr) (c0_1 : Nat) (l0_1 : List Int) (a0_2 : Int) (a0_3 : Int) (r : Bool) (w : World) (hr0_0 : Kd.C k77 w A0_0 l0_0.length l0_0) (hc0_0 : l0_0.length ≤ c0_0) (hr0_1 : Kd.C (Kd.int .u8) w A0_1 l0_1.length l0_1) (hc0_1 : l0_1.length ≤ c0_1) (h : vv.f k l0_0 l0_1 a0_2 a0_3 = some r) :
  Calls Try.prog 21 #[.agg #[.slice A0_0 l0_0.length c0_0,.slice A0_1 l0_1.length c0_1,.int .i64 a0_2,.int .i64 a0_3]] w fun e w' => e = .returned (.bool r) ∧ Below w.heap.size w w' := by
 have hu45 := Try.underlying45
 have hu77 := Try.underlying77
 have HR0_0 := qq.mk hr0_0
 have HC0_0 := qq.mk hc0_0
 clear hr0_0 hc0_0
 have HR0_1 := qq.mk hr0_1
 have HC0_1 := qq.mk hc0_1
 clear hr0_1 hc0_1
 have HB := qq.mk (Below.refl w.heap.size w)
 have H : (if (l0_0.length : Int) > 20 then (vv.j0 k true l0_0 l0_1 a0_2 a0_3) else (if (l0_1.length : Int) > 64 then (vv.j0 k true l0_0 l0_1 a0_2 a0_3) else (if a0_2 < 1 then (vv.j0 k true l0_0 l0_1 a0_2 a0_3) else (if a0_2 > 1000000 then (vv.j0 k true l0_0 l0_1 a0_2 a0_3) else (if a0_3 < 1 then (vv.j0 k true l0_0 l0_1 a0_2 a0_3) else (vv.j0 k (decide (a0_3 > 1000000)) l0_0 l0_1 a0_2 a0_3)))))) = some r := h
 clear h
 have HC2 := qq.mk H
 clear H
 go_enter Try.func21,Try.ntmps21
 go_upto_region 1 with (first | ((with_reducible refine gate_dst (N := 1) rfl ?_);(try (refine gate_guard (by rfl) ?_;dsimp only));refine box_event ?hg (N := 1) ?hd (cs := #[.slice A0_0 l0_0.length c0_0,.slice A0_1 l0_1.length c0_1,.int .i64 a0_2,.int .i64 a0_3]) (t := 45) ?hr ?_;(case hd => rfl);(case hg => rfl);(case hr => first | (go_simp;done) | (go_simp;rfl));intro gb101 hg w3 hbox hb;have n0_ := qq.mk (zv (by repeat (first | (with_reducible first | exact HB.out | apply qj | apply qz | apply qk) | exact HB.out)) hb);have n1_ := qq.mk (hbox);have n2_ := qq.mk ((by rw [hg];exact (zw (by repeat (first | (with_reducible first | exact HB.out | apply qj | apply qz | apply qk) | exact HB.out))) : w.heap.size ≤ gb101));have n3_ := qq.mk ((by rw [hg];exact (zw (by repeat (first | (with_reducible first | exact HB.out | apply qj | apply qz | apply qk) | exact HB.out))) : w.heap.size ≤ gb101));clear HB;have HB := n0_;have BK101 := n1_;have GW101 := n2_;have GE101 := n3_;clear n0_ n1_ n2_ n3_;clear hb hbox hg))
 (try simp only [Act.put,List.setIfInBounds_toArray,List.set_cons_zero,List.set_cons_succ])
 go_cut [34] (fun v34 wc => ∃ (kq : Nat) (x34_1 : Bool),v34 = .bool x34_1 ∧ qq (vv.j0 kq x34_1 l0_0 l0_1 a0_2 a0_3 = some r) ∧ qq (kq ≤ k) ∧ qq (wc.heap[gb101]? = some (.cells #[(.slice A0_0 l0_0.length c0_0),(.slice A0_1 l0_1.length c0_1),.int .i64 a0_2,.int .i64 a0_3] 45 (0,0))) ∧ qq (Below w.heap.size w wc))
 case first =>
  have H := HC2.out
  clear HC2
  by_cases c4 : (l0_0.length : Int) > 20
  ·rw [if_pos c4] at H
   have c4b0 : decide (20 < (l0_0.length : Int)) = true := decide_eq_true c4
   have c4b1 : decide (20 < l0_0.length) = true := decide_eq_true (by omega)
   clear c4
   (first | rw [c4b0] | (simp only [i64_w,i32_w];rw [c4b0]) | skip)
   have H' := qq.mk H
   clear H
   have hcz5_0 : w3.cell? ⟨gb101,0,none⟩ = some (.slice A0_0 l0_0.length c0_0) := (qw BK101.out 0).trans rfl
   have hcz5_1 : w3.cell? ⟨gb101,1,none⟩ = some (.slice A0_1 l0_1.length c0_1) := (qw BK101.out 1).trans rfl
   have hcz5_2 : w3.cell? ⟨gb101,2,none⟩ = some (.int .i64 a0_2) := (qw BK101.out 2).trans rfl
   have hcz5_3 : w3.cell? ⟨gb101,3,none⟩ = some (.int .i64 a0_3) := (qw BK101.out 3).trans rfl
   have hfz5_0 := qv BK101.out 0
   have hfz5_1 := qv BK101.out 1
   have hfz5_2 := qv BK101.out 2
   have hfz5_3 := qv BK101.out 3
   go_wp2
   go_meet
   case rel => exact ⟨_,(true),(by first | rfl | (simp;done) | (simp [*];done)),H',⟨by first | omega | exact Nat.le_refl _⟩,⟨by (with_reducible repeat (first | refine zz ?_ _ | refine zj ?_ | refine zq ?_ _));exact BK101.out⟩,⟨by repeat (first | (with_reducible first | exact HB.out | apply qj | apply qz | apply qk | refine qx ?_ GE101.out) | exact HB.out)⟩⟩
  ·rw [if_neg c4] at H
   have c4b0 : decide (20 < (l0_0.length : Int)) = false := decide_eq_false c4
   have c4b1 : decide (20 < l0_0.length) = false := decide_eq_false (by omega)
   clear c4
   (first | rw [c4b0] | (simp only [i64_w,i32_w];rw [c4b0]) | skip)
   by_cases c6 : (l0_1.length : Int) > 64
   ·rw [if_pos c6] at H
    have c6b0 : decide (64 < (l0_1.length : Int)) = true := decide_eq_true c6
    have c6b1 : decide (64 < l0_1.length) = true := decide_eq_true (by omega)
    clear c6
    have H' := qq.mk H
    clear H
    have hcz7_0 : w3.cell? ⟨gb101,0,none⟩ = some (.slice A0_0 l0_0.length c0_0) := (qw BK101.out 0).trans rfl
    have hcz7_1 : w3.cell? ⟨gb101,1,none⟩ = some (.slice A0_1 l0_1.length c0_1) := (qw BK101.out 1).trans rfl
    have hcz7_2 : w3.cell? ⟨gb101,2,none⟩ = some (.int .i64 a0_2) := (qw BK101.out 2).trans rfl
    have hcz7_3 : w3.cell? ⟨gb101,3,none⟩ = some (.int .i64 a0_3) := (qw BK101.out 3).trans rfl
    have hfz7_0 := qv BK101.out 0
    have hfz7_1 := qv BK101.out 1
    have hfz7_2 := qv BK101.out 2
    have hfz7_3 := qv BK101.out 3
    go_wp2
    go_meet
    case rel => exact ⟨_,(true),(by first | rfl | (simp;done) | (simp [*];done)),H',⟨by first | omega | exact Nat.le_refl _⟩,⟨by (with_reducible repeat (first | refine zz ?_ _ | refine zj ?_ | refine zq ?_ _));exact BK101.out⟩,⟨by repeat (first | (with_reducible first | exact HB.out | apply qj | apply qz | apply qk | refine qx ?_ GE101.out) | exact HB.out)⟩⟩
   ·rw [if_neg c6] at H
    have c6b0 : decide (64 < (l0_1.length : Int)) = false := decide_eq_false c6
    have c6b1 : decide (64 < l0_1.length) = false := decide_eq_false (by omega)
    clear c6
    by_cases c8 : a0_2 < 1
    ·rw [if_pos c8] at H
     have c8b0 : decide (a0_2 < 1) = true := decide_eq_true c8
     clear c8
     have H' := qq.mk H
     clear H
     have hcz9_0 : w3.cell? ⟨gb101,0,none⟩ = some (.slice A0_0 l0_0.length c0_0) := (qw BK101.out 0).trans rfl
     have hcz9_1 : w3.cell? ⟨gb101,1,none⟩ = some (.slice A0_1 l0_1.length c0_1) := (qw BK101.out 1).trans rfl
     have hcz9_2 : w3.cell? ⟨gb101,2,none⟩ = some (.int .i64 a0_2) := (qw BK101.out 2).trans rfl
     have hcz9_3 : w3.cell? ⟨gb101,3,none⟩ = some (.int .i64 a0_3) := (qw BK101.out 3).trans rfl
     have hfz9_0 := qv BK101.out 0
     have hfz9_1 := qv BK101.out 1
     have hfz9_2 := qv BK101.out 2
     have hfz9_3 := qv BK101.out 3
     go_wp2
     go_meet
     case rel => exact ⟨_,(true),(by first | rfl | (simp;done) | (simp [*];done)),H',⟨by first | omega | exact Nat.le_refl _⟩,⟨by (with_reducible repeat (first | refine zz ?_ _ | refine zj ?_ | refine zq ?_ _));exact BK101.out⟩,⟨by repeat (first | (with_reducible first | exact HB.out | apply qj | apply qz | apply qk | refine qx ?_ GE101.out) | exact HB.out)⟩⟩
    ·rw [if_neg c8] at H
     have c8b0 : decide (a0_2 < 1) = false := decide_eq_false c8
     clear c8
     by_cases c10 : a0_2 > 1000000
     ·rw [if_pos c10] at H
      have c10b0 : decide (1000000 < a0_2) = true := decide_eq_true c10
      clear c10
      have H' := qq.mk H
      clear H
      have hcz11_0 : w3.cell? ⟨gb101,0,none⟩ = some (.slice A0_0 l0_0.length c0_0) := (qw BK101.out 0).trans rfl
      have hcz11_1 : w3.cell? ⟨gb101,1,none⟩ = some (.slice A0_1 l0_1.length c0_1) := (qw BK101.out 1).trans rfl
      have hcz11_2 : w3.cell? ⟨gb101,2,none⟩ = some (.int .i64 a0_2) := (qw BK101.out 2).trans rfl
      have hcz11_3 : w3.cell? ⟨gb101,3,none⟩ = some (.int .i64 a0_3) := (qw BK101.out 3).trans rfl
      have hfz11_0 := qv BK101.out 0
      have hfz11_1 := qv BK101.out 1
      have hfz11_2 := qv BK101.out 2
      have hfz11_3 := qv BK101.out 3
      go_wp2
      go_meet
      case rel => exact ⟨_,(true),(by first | rfl | (simp;done) | (simp [*];done)),H',⟨by first | omega | exact Nat.le_refl _⟩,⟨by (with_reducible repeat (first | refine zz ?_ _ | refine zj ?_ | refine zq ?_ _));exact BK101.out⟩,⟨by repeat (first | (with_reducible first | exact HB.out | apply qj | apply qz | apply qk | refine qx ?_ GE101.out) | exact HB.out)⟩⟩
     ·rw [if_neg c10] at H
      have c10b0 : decide (1000000 < a0_2) = false := decide_eq_false c10
      clear c10
      by_cases c12 : a0_3 < 1
      ·rw [if_pos c12] at H
       have c12b0 : decide (a0_3 < 1) = true := decide_eq_true c12
       clear c12
       have H' := qq.mk H
       clear H
       have hcz13_0 : w3.cell? ⟨gb101,0,none⟩ = some (.slice A0_0 l0_0.length c0_0) := (qw BK101.out 0).trans rfl
       have hcz13_1 : w3.cell? ⟨gb101,1,none⟩ = some (.slice A0_1 l0_1.length c0_1) := (qw BK101.out 1).trans rfl
       have hcz13_2 : w3.cell? ⟨gb101,2,none⟩ = some (.int .i64 a0_2) := (qw BK101.out 2).trans rfl
       have hcz13_3 : w3.cell? ⟨gb101,3,none⟩ = some (.int .i64 a0_3) := (qw BK101.out 3).trans rfl
       have hfz13_0 := qv BK101.out 0
       have hfz13_1 := qv BK101.out 1
       have hfz13_2 := qv BK101.out 2
       have hfz13_3 := qv BK101.out 3
       go_wp2
       go_meet
       case rel => exact ⟨_,(true),(by first | rfl | (simp;done) | (simp [*];done)),H',⟨by first | omega | exact Nat.le_refl _⟩,⟨by (with_reducible repeat (first | refine zz ?_ _ | refine zj ?_ | refine zq ?_ _));exact BK101.out⟩,⟨by repeat (first | (with_reducible first | exact HB.out | apply qj | apply qz | apply qk | refine qx ?_ GE101.out) | exact HB.out)⟩⟩
      ·rw [if_neg c12] at H
       have c12b0 : decide (a0_3 < 1) = false := decide_eq_false c12
       clear c12
       have H' := qq.mk H
       clear H
       have hcz14_0 : w3.cell? ⟨gb101,0,none⟩ = some (.slice A0_0 l0_0.length c0_0) := (qw BK101.out 0).trans rfl
       have hcz14_1 : w3.cell? ⟨gb101,1,none⟩ = some (.slice A0_1 l0_1.length c0_1) := (qw BK101.out 1).trans rfl
       have hcz14_2 : w3.cell? ⟨gb101,2,none⟩ = some (.int .i64 a0_2) := (qw BK101.out 2).trans rfl
       have hcz14_3 : w3.cell? ⟨gb101,3,none⟩ = some (.int .i64 a0_3) := (qw BK101.out 3).trans rfl
       have hfz14_0 := qv BK101.out 0
       have hfz14_1 := qv BK101.out 1
       have hfz14_2 := qv BK101.out 2
       have hfz14_3 := qv BK101.out 3
       go_wp2
       go_meet
       case rel => exact ⟨_,(decide (a0_3 > 1000000)),(by first | rfl | (simp;done) | (simp [*];done)),H',⟨by first | omega | exact Nat.le_refl _⟩,⟨by (with_reducible repeat (first | refine zz ?_ _ | refine zj ?_ | refine zq ?_ _));exact BK101.out⟩,⟨by repeat (first | (with_reducible first | exact HB.out | apply qj | apply qz | apply qk | refine qx ?_ GE101.out) | exact HB.out)⟩⟩
 case rest =>
  clear HC2
  try clear c1
  try clear c2
  try clear p2
  try clear c4
  try clear c4b0
  try clear c4b1
  try clear c6
  try clear c6b0
  try clear c6b1
  try clear c8
  try clear c8b0
  try clear c10
  try clear c10b0
  try clear c12
  try clear c12b0
  try clear hcz11_0
  try clear hcz11_1
  try clear hcz11_2
  try clear hcz11_3
  try clear hcz13_0
  try clear hcz13_1
  try clear hcz13_2
  try clear hcz13_3
  try clear hcz14_0
  try clear hcz14_1
  try clear hcz14_2
  try clear hcz14_3
  try clear hcz5_0
  try clear hcz5_1
  try clear hcz5_2
  try clear hcz5_3
  try clear hcz7_0
  try clear hcz7_1
  try clear hcz7_2
  try clear hcz7_3
  try clear hcz9_0
  try clear hcz9_1
  try clear hcz9_2
  try clear hcz9_3
  try clear hfz11_0
  try clear hfz11_1
  try clear hfz11_2
  try clear hfz11_3
  try clear hfz13_0
  try clear hfz13_1
  try clear hfz13_2
  try clear hfz13_3
  try clear hfz14_0
  try clear hfz14_1
  try clear hfz14_2
  try clear hfz14_3
  try clear hfz5_0
  try clear hfz5_1
  try clear hfz5_2
  try clear hfz5_3
  try clear hfz7_0
  try clear hfz7_1
  try clear hfz7_2
  try clear hfz7_3
  try clear hfz9_0
  try clear hfz9_1
  try clear hfz9_2
  try clear hfz9_3
  obtain ⟨kq,x34_1,rfl,HA,HJ1,BK101,HB⟩ := hcut
  cases kq with
  | zero => exact absurd HA.out (by simp [vv.j0])
  | succ kj1 =>
   have H := HA.out
   clear HA
   simp only [vv.j0] at H
   by_cases c15 : x34_1 = true
   ·subst c15
    have H1 : (some false) = some r := by rw [if_pos rfl] at H;exact H
    clear H
    have H := H1
    clear H1
    obtain rfl := Option.some.inj H
    go_wp2
    go_ret
    exact ⟨by first | rfl | (simp [*,jk,jj] <;> rfl),by repeat (first | (with_reducible first | exact HB.out | apply qj | apply qz | apply qk | refine qx ?_ GE101.out) | exact HB.out)⟩
   ·replace c15 := Bool.eq_false_iff.mpr c15
    subst c15
    have H1 : (vv.l0 kj1 l0_0 (l0_0.length : Int) 0 l0_0 l0_1 a0_2 a0_3) = some r := by rw [if_neg (show ¬ (false = true) by decide)] at H;exact H
    clear H
    have H := H1
    clear H1
    have H' := qq.mk H
    clear H
    have hcz16_0 : wc.cell? ⟨gb101,0,none⟩ = some (.slice A0_0 l0_0.length c0_0) := (qw BK101.out 0).trans rfl
    have hcz16_1 : wc.cell? ⟨gb101,1,none⟩ = some (.slice A0_1 l0_1.length c0_1) := (qw BK101.out 1).trans rfl
    have hcz16_2 : wc.cell? ⟨gb101,2,none⟩ = some (.int .i64 a0_2) := (qw BK101.out 2).trans rfl
    have hcz16_3 : wc.cell? ⟨gb101,3,none⟩ = some (.int .i64 a0_3) := (qw BK101.out 3).trans rfl
    have hfz16_0 := qv BK101.out 0
    have hfz16_1 := qv BK101.out 1
    have hfz16_2 := qv BK101.out 2
    have hfz16_3 := qv BK101.out 3
    go_wp2
    go_loopg [38] kj1 (fun kq v38 w' => ∃ (x38_2 : Int),v38 = .int .i64 x38_2 ∧ qq (vv.l0 kq l0_0 (l0_0.length : Int) x38_2 l0_0 l0_1 a0_2 a0_3 = some r) ∧ qq (kq ≤ kj1) ∧ qq (w'.heap[gb101]? = some (.cells #[(.slice A0_0 l0_0.length c0_0),(.slice A0_1 l0_1.length c0_1),.int .i64 a0_2,.int .i64 a0_3] 45 (0,0))) ∧ qq (Below w.heap.size w w'))
    case atStart => exact ⟨(0),(by first | rfl | (simp;done) | (simp [*];done)),H',⟨Nat.le_refl _⟩,⟨by (with_reducible repeat (first | refine zz ?_ _ | refine zj ?_ | refine zq ?_ _));exact BK101.out⟩,⟨by repeat (first | (with_reducible first | exact HB.out | apply qj | apply qz | apply qk | refine qx ?_ GE101.out) | exact HB.out)⟩⟩
    case round =>
     clear H'
     try clear c1
     try clear c2
     try clear p2
     try clear c4
     try clear c4b0
     try clear c4b1
     try clear c6
     try clear c6b0
     try clear c6b1
     try clear c8
     try clear c8b0
     try clear c10
     try clear c10b0
     try clear c12
     try clear c12b0
     try clear c15
     try clear hcz11_0
     try clear hcz11_1
     try clear hcz11_2
     try clear hcz11_3
     try clear hcz13_0
     try clear hcz13_1
     try clear hcz13_2
     try clear hcz13_3
     try clear hcz14_0
     try clear hcz14_1
     try clear hcz14_2
     try clear hcz14_3
     try clear hcz16_0
     try clear hcz16_1
     try clear hcz16_2
     try clear hcz16_3
     try clear hcz5_0
     try clear hcz5_1
     try clear hcz5_2
     try clear hcz5_3
     try clear hcz7_0
     try clear hcz7_1
     try clear hcz7_2
     try clear hcz7_3
     try clear hcz9_0
     try clear hcz9_1
     try clear hcz9_2
     try clear hcz9_3
     try clear hfz11_0
     try clear hfz11_1
     try clear hfz11_2
     try clear hfz11_3
     try clear hfz13_0
     try clear hfz13_1
     try clear hfz13_2
     try clear hfz13_3
     try clear hfz14_0
     try clear hfz14_1
     try clear hfz14_2
     try clear hfz14_3
     try clear hfz16_0
     try clear hfz16_1
     try clear hfz16_2
     try clear hfz16_3
     try clear hfz5_0
     try clear hfz5_1
     try clear hfz5_2
     try clear hfz5_3
     try clear hfz7_0
     try clear hfz7_1
     try clear hfz7_2
     try clear hfz7_3
     try clear hfz9_0
     try clear hfz9_1
     try clear hfz9_2
     try clear hfz9_3
     try clear p2
     obtain ⟨x38_2,rfl,HA,HK2,BK101,HB⟩ := hrel
     cases gk with
     | zero => exact absurd HA.out (by simp [vv.l0])
     | succ k2 =>
      have H := HA.out
      clear HA
      simp only [vv.l0] at H
      by_cases c17 : x38_2 < (l0_0.length : Int)
      ·rw [if_pos c17] at H
       have c17b0 : decide (x38_2 < (l0_0.length : Int)) = true := decide_eq_true c17
       clear c17
       by_cases c18 : 0 ≤ x38_2
       ·rw [if_pos c18] at H
        have c18b0 : decide (0 ≤ x38_2) = true := decide_eq_true c18
        clear c18
        by_cases c19 : x38_2 < (l0_0.length : Int)
        ·rw [if_pos c19] at H
         have c19b0 : decide (x38_2 < (l0_0.length : Int)) = true := decide_eq_true c19
         clear c19
         have HC20 := qq.mk H
         clear H
         have p102 : 0 ≤ (x38_2 : Int) := of_decide_eq_true (by assumption)
         have q102 : x38_2 < (l0_0.length : Int) := of_decide_eq_true (by assumption)
         obtain ⟨ad102,A102_1,c102_1,A102_2,c102_2,A102_3,c102_3,A102_4,c102_4,e102,hx102_0,hx102_1,hx102_2,hx102_3,hx102_4,hl102_1,hi102_1,hl102_2,hi102_2,hl102_3,hi102_3,hl102_4,hi102_4⟩ := at_T77 HR0_0.out x38_2 p102 q102
         cases e102
         replace hx102_0 := (HB.out.cell (World.block_lt_of_cell? w _ hx102_0)).trans hx102_0
         replace hx102_1 := (HB.out.cell (World.block_lt_of_cell? w _ hx102_1)).trans hx102_1
         replace hx102_2 := (HB.out.cell (World.block_lt_of_cell? w _ hx102_2)).trans hx102_2
         replace hx102_3 := (HB.out.cell (World.block_lt_of_cell? w _ hx102_3)).trans hx102_3
         replace hx102_4 := (HB.out.cell (World.block_lt_of_cell? w _ hx102_4)).trans hx102_4
         have HR102_1 := qq.mk hi102_1
         have HC102_1 := qq.mk hl102_1
         clear hi102_1 hl102_1
         have HR102_2 := qq.mk hi102_2
         have HC102_2 := qq.mk hl102_2
         clear hi102_2 hl102_2
         have HR102_3 := qq.mk hi102_3
         have HC102_3 := qq.mk hl102_3
         clear hi102_3 hl102_3
         have HR102_4 := qq.mk hi102_4
         have HC102_4 := qq.mk hl102_4
         clear hi102_4 hl102_4
         replace p102 := eq_true p102
         replace q102 := eq_true q102
         go_upto_region 6 with (first | ((with_reducible refine gate_dst (N := 4) rfl ?_);(try (refine gate_guard (by rfl) ?_;dsimp only));refine box_event ?hg (N := 4) ?hd (cs := #[.string (⟨#[]⟩ : ByteArray),.slice none 0 0,.slice none 0 0,.slice none 0 0,.slice none 0 0]) (t := 77) ?hr ?_;(case hd => rfl);(case hg => rfl);(case hr => first | (go_simp;done) | (go_simp;rfl));intro gb103 hg w21 hbox hb;have n0_ := qq.mk (kw (g := gb101) (o := .cells #[.slice (some ad102) l0_0.length c0_0,.slice A0_1 l0_1.length c0_1,.int .i64 a0_2,.int .i64 a0_3] 45 (0,0)) (by (with_reducible repeat (first | refine zz ?_ _ | refine zj ?_ | refine zq ?_ _));exact BK101.out) hb);have n1_ := qq.mk (zv (by repeat (first | (with_reducible first | exact HB.out | apply qj | apply qz | apply qk | refine qx ?_ GE101.out) | exact HB.out)) hb);have n2_ := qq.mk (hbox);have n3_ := qq.mk ((by rw [hg];exact (zw (by repeat (first | (with_reducible first | exact HB.out | apply qj | apply qz | apply qk | refine qx ?_ GE101.out) | exact HB.out))) : w.heap.size ≤ gb103));have n4_ := qq.mk ((by rw [hg];exact (zw (by repeat (first | (with_reducible first | exact HB.out | apply qj | apply qz | apply qk | refine qx ?_ GE101.out) | exact HB.out))) : w.heap.size ≤ gb103));have n5_ := qq.mk ((by rw [hg];exact Nat.ne_of_lt (blk_lt (g := gb101) (o := .cells #[.slice (some ad102) l0_0.length c0_0,.slice A0_1 l0_1.length c0_1,.int .i64 a0_2,.int .i64 a0_3] 45 (0,0)) (by (with_reducible repeat (first | refine zz ?_ _ | refine zj ?_ | refine zq ?_ _));exact BK101.out)) : gb101 ≠ gb103));have n6_ := qq.mk ((by rw [hg];exact Nat.ne_of_gt (blk_lt (g := gb101) (o := .cells #[.slice (some ad102) l0_0.length c0_0,.slice A0_1 l0_1.length c0_1,.int .i64 a0_2,.int .i64 a0_3] 45 (0,0)) (by (with_reducible repeat (first | refine zz ?_ _ | refine zj ?_ | refine zq ?_ _));exact BK101.out)) : gb103 ≠ gb101));clear BK101;clear HB;have BK101 := n0_;have HB := n1_;have BK103 := n2_;have GW103 := n3_;have GE103 := n4_;have NB101_103 := n5_;have NB103_101 := n6_;clear n0_ n1_ n2_ n3_ n4_ n5_ n6_;clear hb hbox hg;have hnb22 := NB103_101.out;have hnc22 := NB101_103.out;have hcz23_0 : w21.cell? ⟨gb103,0,none⟩ = some (.string (⟨#[]⟩ : ByteArray)) := (qw BK103.out 0).trans rfl;have hcz23_1 : w21.cell? ⟨gb103,1,none⟩ = some (.slice none 0 0) := (qw BK103.out 1).trans rfl;have hcz23_2 : w21.cell? ⟨gb103,2,none⟩ = some (.slice none 0 0) := (qw BK103.out 2).trans rfl;have hcz23_3 : w21.cell? ⟨gb103,3,none⟩ = some (.slice none 0 0) := (qw BK103.out 3).trans rfl;have hcz23_4 : w21.cell? ⟨gb103,4,none⟩ = some (.slice none 0 0) := (qw BK103.out 4).trans rfl;have hfz23_0 := qv BK103.out 0;have hfz23_1 := qv BK103.out 1;have hfz23_2 := qv BK103.out 2;have hfz23_3 := qv BK103.out 3;have hfz23_4 := qv BK103.out 4))
         (try simp only [Act.put,List.setIfInBounds_toArray,List.set_cons_zero,List.set_cons_succ])
         go_cut [92] (fun v92 wc => ∃ (kq : Nat) (x92_19 : Bool),v92 = .bool x92_19 ∧ qq (vv.j2 kq l0_0 (l0_0.length : Int) x38_2 x92_19 l0_0 l0_1 a0_2 a0_3 ((vq l0_0 x38_2).f0) ((vq l0_0 x38_2).f1) ((vq l0_0 x38_2).f2) ((vq l0_0 x38_2).f3) ((vq l0_0 x38_2).f4) = some r) ∧ qq (kq ≤ k2) ∧ qq (wc.heap[gb101]? = some (.cells #[(.slice (some ad102) l0_0.length c0_0),(.slice A0_1 l0_1.length c0_1),.int .i64 a0_2,.int .i64 a0_3] 45 (0,0))) ∧ qq (wc.heap[gb103]? = some (.cells #[.string ((vq l0_0 x38_2).f0),(.slice A102_1 ((vq l0_0 x38_2).f1).length c102_1),(.slice A102_2 ((vq l0_0 x38_2).f2).length c102_2),(.slice A102_3 ((vq l0_0 x38_2).f3).length c102_3),(.slice A102_4 ((vq l0_0 x38_2).f4).length c102_4)] 77 (0,0))) ∧ qq (Below w.heap.size w wc))
         case first =>
          have H := HC20.out
          clear HC20
          replace H := Option.bind_eq_some_iff.mp H
          obtain ⟨t104,A240,H⟩ := H
          replace H : (if t104 = true then (if x38_2 > 0 then (if 0 ≤ (wrap64 (x38_2 - 1)) then (if (wrap64 (x38_2 - 1)) < (l0_0.length : Int) then (if ((Op.bytesLess (((vq l0_0 (wrap64 (x38_2 - 1))).f0).toList) (((vq l0_0 x38_2).f0).toList)) = true) then (if (((vq l0_0 x38_2).f1).length : Int) = 0 then (if (((vq l0_0 x38_2).f2).length : Int) > 5 then (vv.j2 k2 l0_0 (l0_0.length : Int) x38_2 true l0_0 l0_1 a0_2 a0_3 ((vq l0_0 x38_2).f0) ((vq l0_0 x38_2).f1) ((vq l0_0 x38_2).f2) ((vq l0_0 x38_2).f3) ((vq l0_0 x38_2).f4)) else ((wk.f k2 ((vq l0_0 x38_2).f3)).bind fun t106 => (if t106 = true then (vv.j2 k2 l0_0 (l0_0.length : Int) x38_2 (decide ((((vq l0_0 x38_2).f4).length : Int) > 4)) l0_0 l0_1 a0_2 a0_3 ((vq l0_0 x38_2).f0) ((vq l0_0 x38_2).f1) ((vq l0_0 x38_2).f2) ((vq l0_0 x38_2).f3) ((vq l0_0 x38_2).f4)) else (vv.j2 k2 l0_0 (l0_0.length : Int) x38_2 true l0_0 l0_1 a0_2 a0_3 ((vq l0_0 x38_2).f0) ((vq l0_0 x38_2).f1) ((vq l0_0 x38_2).f2) ((vq l0_0 x38_2).f3) ((vq l0_0 x38_2).f4))))) else (if (((vq l0_0 x38_2).f1).length : Int) = 16 then (if (((vq l0_0 x38_2).f2).length : Int) > 5 then (vv.j2 k2 l0_0 (l0_0.length : Int) x38_2 true l0_0 l0_1 a0_2 a0_3 ((vq l0_0 x38_2).f0) ((vq l0_0 x38_2).f1) ((vq l0_0 x38_2).f2) ((vq l0_0 x38_2).f3) ((vq l0_0 x38_2).f4)) else ((wk.f k2 ((vq l0_0 x38_2).f3)).bind fun t107 => (if t107 = true then (vv.j2 k2 l0_0 (l0_0.length : Int) x38_2 (decide ((((vq l0_0 x38_2).f4).length : Int) > 4)) l0_0 l0_1 a0_2 a0_3 ((vq l0_0 x38_2).f0) ((vq l0_0 x38_2).f1) ((vq l0_0 x38_2).f2) ((vq l0_0 x38_2).f3) ((vq l0_0 x38_2).f4)) else (vv.j2 k2 l0_0 (l0_0.length : Int) x38_2 true l0_0 l0_1 a0_2 a0_3 ((vq l0_0 x38_2).f0) ((vq l0_0 x38_2).f1) ((vq l0_0 x38_2).f2) ((vq l0_0 x38_2).f3) ((vq l0_0 x38_2).f4))))) else (vv.j2 k2 l0_0 (l0_0.length : Int) x38_2 true l0_0 l0_1 a0_2 a0_3 ((vq l0_0 x38_2).f0) ((vq l0_0 x38_2).f1) ((vq l0_0 x38_2).f2) ((vq l0_0 x38_2).f3) ((vq l0_0 x38_2).f4)))) else (vv.j2 k2 l0_0 (l0_0.length : Int) x38_2 true l0_0 l0_1 a0_2 a0_3 ((vq l0_0 x38_2).f0) ((vq l0_0 x38_2).f1) ((vq l0_0 x38_2).f2) ((vq l0_0 x38_2).f3) ((vq l0_0 x38_2).f4))) else (none)) else (none)) else (if (((vq l0_0 x38_2).f1).length : Int) = 0 then (if (((vq l0_0 x38_2).f2).length : Int) > 5 then (vv.j2 k2 l0_0 (l0_0.length : Int) x38_2 true l0_0 l0_1 a0_2 a0_3 ((vq l0_0 x38_2).f0) ((vq l0_0 x38_2).f1) ((vq l0_0 x38_2).f2) ((vq l0_0 x38_2).f3) ((vq l0_0 x38_2).f4)) else ((wk.f k2 ((vq l0_0 x38_2).f3)).bind fun t108 => (if t108 = true then (vv.j2 k2 l0_0 (l0_0.length : Int) x38_2 (decide ((((vq l0_0 x38_2).f4).length : Int) > 4)) l0_0 l0_1 a0_2 a0_3 ((vq l0_0 x38_2).f0) ((vq l0_0 x38_2).f1) ((vq l0_0 x38_2).f2) ((vq l0_0 x38_2).f3) ((vq l0_0 x38_2).f4)) else (vv.j2 k2 l0_0 (l0_0.length : Int) x38_2 true l0_0 l0_1 a0_2 a0_3 ((vq l0_0 x38_2).f0) ((vq l0_0 x38_2).f1) ((vq l0_0 x38_2).f2) ((vq l0_0 x38_2).f3) ((vq l0_0 x38_2).f4))))) else (if (((vq l0_0 x38_2).f1).length : Int) = 16 then (if (((vq l0_0 x38_2).f2).length : Int) > 5 then (vv.j2 k2 l0_0 (l0_0.length : Int) x38_2 true l0_0 l0_1 a0_2 a0_3 ((vq l0_0 x38_2).f0) ((vq l0_0 x38_2).f1) ((vq l0_0 x38_2).f2) ((vq l0_0 x38_2).f3) ((vq l0_0 x38_2).f4)) else ((wk.f k2 ((vq l0_0 x38_2).f3)).bind fun t109 => (if t109 = true then (vv.j2 k2 l0_0 (l0_0.length : Int) x38_2 (decide ((((vq l0_0 x38_2).f4).length : Int) > 4)) l0_0 l0_1 a0_2 a0_3 ((vq l0_0 x38_2).f0) ((vq l0_0 x38_2).f1) ((vq l0_0 x38_2).f2) ((vq l0_0 x38_2).f3) ((vq l0_0 x38_2).f4)) else (vv.j2 k2 l0_0 (l0_0.length : Int) x38_2 true l0_0 l0_1 a0_2 a0_3 ((vq l0_0 x38_2).f0) ((vq l0_0 x38_2).f1) ((vq l0_0 x38_2).f2) ((vq l0_0 x38_2).f3) ((vq l0_0 x38_2).f4))))) else (vv.j2 k2 l0_0 (l0_0.length : Int) x38_2 true l0_0 l0_1 a0_2 a0_3 ((vq l0_0 x38_2).f0) ((vq l0_0 x38_2).f1) ((vq l0_0 x38_2).f2) ((vq l0_0 x38_2).f3) ((vq l0_0 x38_2).f4))))) else (vv.j2 k2 l0_0 (l0_0.length : Int) x38_2 true l0_0 l0_1 a0_2 a0_3 ((vq l0_0 x38_2).f0) ((vq l0_0 x38_2).f1) ((vq l0_0 x38_2).f2) ((vq l0_0 x38_2).f3) ((vq l0_0 x38_2).f4))) = some r := H
          have A24 := qq.mk A240
          clear A240
          by_cases c25 : t104 = true
          ·subst c25
           have H1 : (if x38_2 > 0 then (if 0 ≤ (wrap64 (x38_2 - 1)) then (if (wrap64 (x38_2 - 1)) < (l0_0.length : Int) then (if ((Op.bytesLess (((vq l0_0 (wrap64 (x38_2 - 1))).f0).toList) (((vq l0_0 x38_2).f0).toList)) = true) then (if (((vq l0_0 x38_2).f1).length : Int) = 0 then (if (((vq l0_0 x38_2).f2).length : Int) > 5 then (vv.j2 k2 l0_0 (l0_0.length : Int) x38_2 true l0_0 l0_1 a0_2 a0_3 ((vq l0_0 x38_2).f0) ((vq l0_0 x38_2).f1) ((vq l0_0 x38_2).f2) ((vq l0_0 x38_2).f3) ((vq l0_0 x38_2).f4)) else ((wk.f k2 ((vq l0_0 x38_2).f3)).bind fun t106 => (if t106 = true then (vv.j2 k2 l0_0 (l0_0.length : Int) x38_2 (decide ((((vq l0_0 x38_2).f4).length : Int) > 4)) l0_0 l0_1 a0_2 a0_3 ((vq l0_0 x38_2).f0) ((vq l0_0 x38_2).f1) ((vq l0_0 x38_2).f2) ((vq l0_0 x38_2).f3) ((vq l0_0 x38_2).f4)) else (vv.j2 k2 l0_0 (l0_0.length : Int) x38_2 true l0_0 l0_1 a0_2 a0_3 ((vq l0_0 x38_2).f0) ((vq l0_0 x38_2).f1) ((vq l0_0 x38_2).f2) ((vq l0_0 x38_2).f3) ((vq l0_0 x38_2).f4))))) else (if (((vq l0_0 x38_2).f1).length : Int) = 16 then (if (((vq l0_0 x38_2).f2).length : Int) > 5 then (vv.j2 k2 l0_0 (l0_0.length : Int) x38_2 true l0_0 l0_1 a0_2 a0_3 ((vq l0_0 x38_2).f0) ((vq l0_0 x38_2).f1) ((vq l0_0 x38_2).f2) ((vq l0_0 x38_2).f3) ((vq l0_0 x38_2).f4)) else ((wk.f k2 ((vq l0_0 x38_2).f3)).bind fun t107 => (if t107 = true then (vv.j2 k2 l0_0 (l0_0.length : Int) x38_2 (decide ((((vq l0_0 x38_2).f4).length : Int) > 4)) l0_0 l0_1 a0_2 a0_3 ((vq l0_0 x38_2).f0) ((vq l0_0 x38_2).f1) ((vq l0_0 x38_2).f2) ((vq l0_0 x38_2).f3) ((vq l0_0 x38_2).f4)) else (vv.j2 k2 l0_0 (l0_0.length : Int) x38_2 true l0_0 l0_1 a0_2 a0_3 ((vq l0_0 x38_2).f0) ((vq l0_0 x38_2).f1) ((vq l0_0 x38_2).f2) ((vq l0_0 x38_2).f3) ((vq l0_0 x38_2).f4))))) else (vv.j2 k2 l0_0 (l0_0.length : Int) x38_2 true l0_0 l0_1 a0_2 a0_3 ((vq l0_0 x38_2).f0) ((vq l0_0 x38_2).f1) ((vq l0_0 x38_2).f2) ((vq l0_0 x38_2).f3) ((vq l0_0 x38_2).f4)))) else (vv.j2 k2 l0_0 (l0_0.length : Int) x38_2 true l0_0 l0_1 a0_2 a0_3 ((vq l0_0 x38_2).f0) ((vq l0_0 x38_2).f1) ((vq l0_0 x38_2).f2) ((vq l0_0 x38_2).f3) ((vq l0_0 x38_2).f4))) else (none)) else (none)) else (if (((vq l0_0 x38_2).f1).length : Int) = 0 then (if (((vq l0_0 x38_2).f2).length : Int) > 5 then (vv.j2 k2 l0_0 (l0_0.length : Int) x38_2 true l0_0 l0_1 a0_2 a0_3 ((vq l0_0 x38_2).f0) ((vq l0_0 x38_2).f1) ((vq l0_0 x38_2).f2) ((vq l0_0 x38_2).f3) ((vq l0_0 x38_2).f4)) else ((wk.f k2 ((vq l0_0 x38_2).f3)).bind fun t108 => (if t108 = true then (vv.j2 k2 l0_0 (l0_0.length : Int) x38_2 (decide ((((vq l0_0 x38_2).f4).length : Int) > 4)) l0_0 l0_1 a0_2 a0_3 ((vq l0_0 x38_2).f0) ((vq l0_0 x38_2).f1) ((vq l0_0 x38_2).f2) ((vq l0_0 x38_2).f3) ((vq l0_0 x38_2).f4)) else (vv.j2 k2 l0_0 (l0_0.length : Int) x38_2 true l0_0 l0_1 a0_2 a0_3 ((vq l0_0 x38_2).f0) ((vq l0_0 x38_2).f1) ((vq l0_0 x38_2).f2) ((vq l0_0 x38_2).f3) ((vq l0_0 x38_2).f4))))) else (if (((vq l0_0 x38_2).f1).length : Int) = 16 then (if (((vq l0_0 x38_2).f2).length : Int) > 5 then (vv.j2 k2 l0_0 (l0_0.length : Int) x38_2 true l0_0 l0_1 a0_2 a0_3 ((vq l0_0 x38_2).f0) ((vq l0_0 x38_2).f1) ((vq l0_0 x38_2).f2) ((vq l0_0 x38_2).f3) ((vq l0_0 x38_2).f4)) else ((wk.f k2 ((vq l0_0 x38_2).f3)).bind fun t109 => (if t109 = true then (vv.j2 k2 l0_0 (l0_0.length : Int) x38_2 (decide ((((vq l0_0 x38_2).f4).length : Int) > 4)) l0_0 l0_1 a0_2 a0_3 ((vq l0_0 x38_2).f0) ((vq l0_0 x38_2).f1) ((vq l0_0 x38_2).f2) ((vq l0_0 x38_2).f3) ((vq l0_0 x38_2).f4)) else (vv.j2 k2 l0_0 (l0_0.length : Int) x38_2 true l0_0 l0_1 a0_2 a0_3 ((vq l0_0 x38_2).f0) ((vq l0_0 x38_2).f1) ((vq l0_0 x38_2).f2) ((vq l0_0 x38_2).f3) ((vq l0_0 x38_2).f4))))) else (vv.j2 k2 l0_0 (l0_0.length : Int) x38_2 true l0_0 l0_1 a0_2 a0_3 ((vq l0_0 x38_2).f0) ((vq l0_0 x38_2).f1) ((vq l0_0 x38_2).f2) ((vq l0_0 x38_2).f3) ((vq l0_0 x38_2).f4))))) = some r := by rw [if_pos rfl] at H;exact H
           clear H
           have H := H1
           clear H1
           by_cases c26 : x38_2 > 0
           ·rw [if_pos c26] at H
            have c26b0 : decide (0 < x38_2) = true := decide_eq_true c26
            clear c26
            (first | rw [c26b0] | (simp only [i64_w,i32_w];rw [c26b0]) | skip)
            obtain ⟨ji27,hji27⟩ : ∃ j_ : Int,(wrap64 (x38_2 - 1)) = j_ := ⟨_,rfl⟩
            replace H : (if 0 ≤ (ji27) then (if (ji27) < (l0_0.length : Int) then (if ((Op.bytesLess (((vq l0_0 (ji27)).f0).toList) (((vq l0_0 x38_2).f0).toList)) = true) then (if (((vq l0_0 x38_2).f1).length : Int) = 0 then (if (((vq l0_0 x38_2).f2).length : Int) > 5 then (vv.j2 k2 l0_0 (l0_0.length : Int) x38_2 true l0_0 l0_1 a0_2 a0_3 ((vq l0_0 x38_2).f0) ((vq l0_0 x38_2).f1) ((vq l0_0 x38_2).f2) ((vq l0_0 x38_2).f3) ((vq l0_0 x38_2).f4)) else ((wk.f k2 ((vq l0_0 x38_2).f3)).bind fun t106 => (if t106 = true then (vv.j2 k2 l0_0 (l0_0.length : Int) x38_2 (decide ((((vq l0_0 x38_2).f4).length : Int) > 4)) l0_0 l0_1 a0_2 a0_3 ((vq l0_0 x38_2).f0) ((vq l0_0 x38_2).f1) ((vq l0_0 x38_2).f2) ((vq l0_0 x38_2).f3) ((vq l0_0 x38_2).f4)) else (vv.j2 k2 l0_0 (l0_0.length : Int) x38_2 true l0_0 l0_1 a0_2 a0_3 ((vq l0_0 x38_2).f0) ((vq l0_0 x38_2).f1) ((vq l0_0 x38_2).f2) ((vq l0_0 x38_2).f3) ((vq l0_0 x38_2).f4))))) else (if (((vq l0_0 x38_2).f1).length : Int) = 16 then (if (((vq l0_0 x38_2).f2).length : Int) > 5 then (vv.j2 k2 l0_0 (l0_0.length : Int) x38_2 true l0_0 l0_1 a0_2 a0_3 ((vq l0_0 x38_2).f0) ((vq l0_0 x38_2).f1) ((vq l0_0 x38_2).f2) ((vq l0_0 x38_2).f3) ((vq l0_0 x38_2).f4)) else ((wk.f k2 ((vq l0_0 x38_2).f3)).bind fun t107 => (if t107 = true then (vv.j2 k2 l0_0 (l0_0.length : Int) x38_2 (decide ((((vq l0_0 x38_2).f4).length : Int) > 4)) l0_0 l0_1 a0_2 a0_3 ((vq l0_0 x38_2).f0) ((vq l0_0 x38_2).f1) ((vq l0_0 x38_2).f2) ((vq l0_0 x38_2).f3) ((vq l0_0 x38_2).f4)) else (vv.j2 k2 l0_0 (l0_0.length : Int) x38_2 true l0_0 l0_1 a0_2 a0_3 ((vq l0_0 x38_2).f0) ((vq l0_0 x38_2).f1) ((vq l0_0 x38_2).f2) ((vq l0_0 x38_2).f3) ((vq l0_0 x38_2).f4))))) else (vv.j2 k2 l0_0 (l0_0.length : Int) x38_2 true l0_0 l0_1 a0_2 a0_3 ((vq l0_0 x38_2).f0) ((vq l0_0 x38_2).f1) ((vq l0_0 x38_2).f2) ((vq l0_0 x38_2).f3) ((vq l0_0 x38_2).f4)))) else (vv.j2 k2 l0_0 (l0_0.length : Int) x38_2 true l0_0 l0_1 a0_2 a0_3 ((vq l0_0 x38_2).f0) ((vq l0_0 x38_2).f1) ((vq l0_0 x38_2).f2) ((vq l0_0 x38_2).f3) ((vq l0_0 x38_2).f4))) else (none)) else (none)) = some r := by first | (rw [hji27] at H;exact H) | (simp only [hji27] at H ⊢;exact H)
            (try rw [hji27] at A24)
            have hji27w : (IntKind.i64.wrap (x38_2 - 1)) = ji27 := (i64_w _).trans hji27
            by_cases c28 : 0 ≤ (ji27)
            ·rw [if_pos c28] at H
             have c28b0 : decide (0 ≤ (ji27)) = true := decide_eq_true c28
             clear c28
             by_cases c29 : (ji27) < (l0_0.length : Int)
             ·rw [if_pos c29] at H
              have c29b0 : decide ((ji27) < (l0_0.length : Int)) = true := decide_eq_true c29
              clear c29
              by_cases c30 : ((Op.bytesLess (((vq l0_0 (ji27)).f0).toList) (((vq l0_0 x38_2).f0).toList)) = true)
              ·rw [if_pos c30] at H
               have c30b0 : (Op.bytesLess (((vq l0_0 (ji27)).f0).toList) (((vq l0_0 x38_2).f0).toList)) = true := c30
               clear c30
               by_cases c31 : (((vq l0_0 x38_2).f1).length : Int) = 0
               ·rw [if_pos c31] at H
                have c31b0 : ((((vq l0_0 x38_2).f1).length : Int) == 0) = true := beq_iff_eq.mpr c31
                have c31b1 : ((((vq l0_0 x38_2).f1).length : Int) != 0) = false := bne_eq_false_iff_eq.mpr c31
                clear c31
                by_cases c32 : (((vq l0_0 x38_2).f2).length : Int) > 5
                ·rw [if_pos c32] at H
                 have c32b0 : decide (5 < (((vq l0_0 x38_2).f2).length : Int)) = true := decide_eq_true c32
                 have c32b1 : decide (5 < ((vq l0_0 x38_2).f2).length) = true := decide_eq_true (by omega)
                 clear c32
                 have H' := qq.mk H
                 clear H
                 try go_wp2
                 have n0_ : qq ((((((w21.setCell ⟨gb103,0,none⟩ (.string ((vq l0_0 x38_2).f0))).setCell ⟨gb103,1,none⟩ (.slice A102_1 ((vq l0_0 x38_2).f1).length c102_1)).setCell ⟨gb103,2,none⟩ (.slice A102_2 ((vq l0_0 x38_2).f2).length c102_2)).setCell ⟨gb103,3,none⟩ (.slice A102_3 ((vq l0_0 x38_2).f3).length c102_3)).setCell ⟨gb103,4,none⟩ (.slice A102_4 ((vq l0_0 x38_2).f4).length c102_4)).heap[gb101]? = some (.cells #[.slice (some ad102) l0_0.length c0_0,.slice A0_1 l0_1.length c0_1,.int .i64 a0_2,.int .i64 a0_3] 45 (0,0))) := ⟨by (with_reducible repeat (first | refine zz ?_ _ | refine zj ?_ | refine zq ?_ _));refine blk_far ?_ NB101_103.out _;(with_reducible repeat (first | refine zz ?_ _ | refine zj ?_ | refine zq ?_ _));refine blk_far ?_ NB101_103.out _;(with_reducible repeat (first | refine zz ?_ _ | refine zj ?_ | refine zq ?_ _));refine blk_far ?_ NB101_103.out _;(with_reducible repeat (first | refine zz ?_ _ | refine zj ?_ | refine zq ?_ _));refine blk_far ?_ NB101_103.out _;(with_reducible repeat (first | refine zz ?_ _ | refine zj ?_ | refine zq ?_ _));refine blk_far ?_ NB101_103.out _;(with_reducible repeat (first | refine zz ?_ _ | refine zj ?_ | refine zq ?_ _));exact BK101.out⟩
                 have n1_ : qq ((((((w21.setCell ⟨gb103,0,none⟩ (.string ((vq l0_0 x38_2).f0))).setCell ⟨gb103,1,none⟩ (.slice A102_1 ((vq l0_0 x38_2).f1).length c102_1)).setCell ⟨gb103,2,none⟩ (.slice A102_2 ((vq l0_0 x38_2).f2).length c102_2)).setCell ⟨gb103,3,none⟩ (.slice A102_3 ((vq l0_0 x38_2).f3).length c102_3)).setCell ⟨gb103,4,none⟩ (.slice A102_4 ((vq l0_0 x38_2).f4).length c102_4)).heap[gb103]? = some (.cells #[.string ((vq l0_0 x38_2).f0),.slice A102_1 ((vq l0_0 x38_2).f1).length c102_1,.slice A102_2 ((vq l0_0 x38_2).f2).length c102_2,.slice A102_3 ((vq l0_0 x38_2).f3).length c102_3,.slice A102_4 ((vq l0_0 x38_2).f4).length c102_4] 77 (0,0))) := ⟨by (with_reducible repeat (first | refine zz ?_ _ | refine zj ?_ | refine zq ?_ _));refine blk_put (cs := #[.string ((vq l0_0 x38_2).f0),.slice A102_1 ((vq l0_0 x38_2).f1).length c102_1,.slice A102_2 ((vq l0_0 x38_2).f2).length c102_2,.slice A102_3 ((vq l0_0 x38_2).f3).length c102_3,.slice none 0 0]) ?_ 4 _ rfl;(with_reducible repeat (first | refine zz ?_ _ | refine zj ?_ | refine zq ?_ _));refine blk_put (cs := #[.string ((vq l0_0 x38_2).f0),.slice A102_1 ((vq l0_0 x38_2).f1).length c102_1,.slice A102_2 ((vq l0_0 x38_2).f2).length c102_2,.slice none 0 0,.slice none 0 0]) ?_ 3 _ rfl;(with_reducible repeat (first | refine zz ?_ _ | refine zj ?_ | refine zq ?_ _));refine blk_put (cs := #[.string ((vq l0_0 x38_2).f0),.slice A102_1 ((vq l0_0 x38_2).f1).length c102_1,.slice none 0 0,.slice none 0 0,.slice none 0 0]) ?_ 2 _ rfl;(with_reducible repeat (first | refine zz ?_ _ | refine zj ?_ | refine zq ?_ _));refine blk_put (cs := #[.string ((vq l0_0 x38_2).f0),.slice none 0 0,.slice none 0 0,.slice none 0 0,.slice none 0 0]) ?_ 1 _ rfl;(with_reducible repeat (first | refine zz ?_ _ | refine zj ?_ | refine zq ?_ _));refine blk_put (cs := #[.string (⟨#[]⟩ : ByteArray),.slice none 0 0,.slice none 0 0,.slice none 0 0,.slice none 0 0]) ?_ 0 _ rfl;(with_reducible repeat (first | refine zz ?_ _ | refine zj ?_ | refine zq ?_ _));exact BK103.out⟩
                 have n2_ : qq (Below w.heap.size w (((((w21.setCell ⟨gb103,0,none⟩ (.string ((vq l0_0 x38_2).f0))).setCell ⟨gb103,1,none⟩ (.slice A102_1 ((vq l0_0 x38_2).f1).length c102_1)).setCell ⟨gb103,2,none⟩ (.slice A102_2 ((vq l0_0 x38_2).f2).length c102_2)).setCell ⟨gb103,3,none⟩ (.slice A102_3 ((vq l0_0 x38_2).f3).length c102_3)).setCell ⟨gb103,4,none⟩ (.slice A102_4 ((vq l0_0 x38_2).f4).length c102_4))) := ⟨by repeat (first | (with_reducible first | exact HB.out | apply qj | apply qz | apply qk | refine qx ?_ GE101.out | refine qx ?_ GE103.out) | exact HB.out)⟩
                 (try clear BK101)
                 (try clear BK103)
                 (try clear HB)
                 generalize (((((w21.setCell ⟨gb103,0,none⟩ (.string ((vq l0_0 x38_2).f0))).setCell ⟨gb103,1,none⟩ (.slice A102_1 ((vq l0_0 x38_2).f1).length c102_1)).setCell ⟨gb103,2,none⟩ (.slice A102_2 ((vq l0_0 x38_2).f2).length c102_2)).setCell ⟨gb103,3,none⟩ (.slice A102_3 ((vq l0_0 x38_2).f3).length c102_3)).setCell ⟨gb103,4,none⟩ (.slice A102_4 ((vq l0_0 x38_2).f4).length c102_4)) = w33 at n0_ n1_ n2_ ⊢
                 have BK101 := n0_
                 have BK103 := n1_
                 have HB := n2_
                 clear n0_ n1_ n2_
                 have p105 : 0 ≤ ((ji27) : Int) := of_decide_eq_true (by assumption)
                 have q105 : (ji27) < (l0_0.length : Int) := of_decide_eq_true (by assumption)
                 obtain ⟨ad105,A105_1,c105_1,A105_2,c105_2,A105_3,c105_3,A105_4,c105_4,e105,hx105_0,hx105_1,hx105_2,hx105_3,hx105_4,hl105_1,hi105_1,hl105_2,hi105_2,hl105_3,hi105_3,hl105_4,hi105_4⟩ := at_T77 HR0_0.out (ji27) p105 q105
                 have hw105_4 := hx105_4
                 have hw105_3 := hx105_3
                 have hw105_2 := hx105_2
                 have hw105_1 := hx105_1
                 have hw105_0 := hx105_0
                 obtain rfl : ad102 = ad105 := (by injection e105)
                 replace hx105_0 := (HB.out.cell (World.block_lt_of_cell? w _ hx105_0)).trans hx105_0
                 replace hx105_1 := (HB.out.cell (World.block_lt_of_cell? w _ hx105_1)).trans hx105_1
                 replace hx105_2 := (HB.out.cell (World.block_lt_of_cell? w _ hx105_2)).trans hx105_2
                 replace hx105_3 := (HB.out.cell (World.block_lt_of_cell? w _ hx105_3)).trans hx105_3
                 replace hx105_4 := (HB.out.cell (World.block_lt_of_cell? w _ hx105_4)).trans hx105_4
                 have HR105_1 := qq.mk hi105_1
                 have HC105_1 := qq.mk hl105_1
                 clear hi105_1 hl105_1
                 have HR105_2 := qq.mk hi105_2
                 have HC105_2 := qq.mk hl105_2
                 clear hi105_2 hl105_2
                 have HR105_3 := qq.mk hi105_3
                 have HC105_3 := qq.mk hl105_3
                 clear hi105_3 hl105_3
                 have HR105_4 := qq.mk hi105_4
                 have HC105_4 := qq.mk hl105_4
                 clear hi105_4 hl105_4
                 replace p105 := eq_true p105
                 replace q105 := eq_true q105
                 have hS_ := (show (fun w' => w'.cell? ⟨gb103,0,none⟩ = some (.string ((vq l0_0 x38_2).f0)) ∧ w'.cell? ⟨gb103,1,none⟩ = some (.slice A102_1 ((vq l0_0 x38_2).f1).length c102_1) ∧ w'.cell? ⟨gb103,2,none⟩ = some (.slice A102_2 ((vq l0_0 x38_2).f2).length c102_2) ∧ w'.cell? ⟨gb103,3,none⟩ = some (.slice A102_3 ((vq l0_0 x38_2).f3).length c102_3) ∧ w'.cell? ⟨gb103,4,none⟩ = some (.slice A102_4 ((vq l0_0 x38_2).f4).length c102_4) ∧ w'.cell? ⟨gb101,0,none⟩ = some (.slice (some ad102) l0_0.length c0_0) ∧ w'.cell? ⟨gb101,1,none⟩ = some (.slice A0_1 l0_1.length c0_1) ∧ w'.cell? ⟨gb101,2,none⟩ = some (.int .i64 a0_2) ∧ w'.cell? ⟨gb101,3,none⟩ = some (.int .i64 a0_3) ∧ w'.cell? (ad102.add (((ji27)).toNat * 5)) = some (.string ((vq l0_0 (ji27)).f0)) ∧ w'.cell? ⟨(ad102.add (((ji27)).toNat * 5)).block,(ad102.add (((ji27)).toNat * 5)).off + 1,none⟩ = some (.slice A105_1 ((vq l0_0 (ji27)).f1).length c105_1) ∧ w'.cell? ⟨(ad102.add (((ji27)).toNat * 5)).block,(ad102.add (((ji27)).toNat * 5)).off + 2,none⟩ = some (.slice A105_2 ((vq l0_0 (ji27)).f2).length c105_2) ∧ w'.cell? ⟨(ad102.add (((ji27)).toNat * 5)).block,(ad102.add (((ji27)).toNat * 5)).off + 3,none⟩ = some (.slice A105_3 ((vq l0_0 (ji27)).f3).length c105_3) ∧ w'.cell? ⟨(ad102.add (((ji27)).toNat * 5)).block,(ad102.add (((ji27)).toNat * 5)).off + 4,none⟩ = some (.slice A105_4 ((vq l0_0 (ji27)).f4).length c105_4)) (w33) from ⟨(qw BK103.out 0).trans rfl,(qw BK103.out 1).trans rfl,(qw BK103.out 2).trans rfl,(qw BK103.out 3).trans rfl,(qw BK103.out 4).trans rfl,(qw BK101.out 0).trans rfl,(qw BK101.out 1).trans rfl,(qw BK101.out 2).trans rfl,(qw BK101.out 3).trans rfl,((HB.out.cell (World.block_lt_of_cell? w _ hw105_0)).trans hw105_0),((HB.out.cell (World.block_lt_of_cell? w _ hw105_1)).trans hw105_1),((HB.out.cell (World.block_lt_of_cell? w _ hw105_2)).trans hw105_2),((HB.out.cell (World.block_lt_of_cell? w _ hw105_3)).trans hw105_3),((HB.out.cell (World.block_lt_of_cell? w _ hw105_4)).trans hw105_4)⟩)
                 obtain ⟨hS0_,hS1_,hS2_,hS3_,hS4_,hS5_,hS6_,hS7_,hS8_,hS9_,hS10_,hS11_,hS12_,hS13_⟩ := hS_
                 go_quiet ((first | (go_at_call 40;exact Calls.quiet_of ((wv.calls k2 ((vq l0_0 x38_2).f0) true _ A24.out).mono fun _ _ h => ⟨h.1,h.2.out⟩))))
                 clear hS0_ hS1_ hS2_ hS3_ hS4_ hS5_ hS6_ hS7_ hS8_ hS9_ hS10_ hS11_ hS12_ hS13_
                 have n0_ := qq.mk (zz BK101.out nq)
                 have n1_ := qq.mk (zz BK103.out nq)
                 have n2_ := qq.mk (qz HB.out nq)
                 clear BK101
                 clear BK103
                 clear HB
                 have BK101 := n0_
                 have BK103 := n1_
                 have HB := n2_
                 clear n0_ n1_ n2_
                 replace hx105_0 : (World.drewN w33 nq).cell? _ = _ := hx105_0
                 replace hx105_1 : (World.drewN w33 nq).cell? _ = _ := hx105_1
                 replace hx105_2 : (World.drewN w33 nq).cell? _ = _ := hx105_2
                 replace hx105_3 : (World.drewN w33 nq).cell? _ = _ := hx105_3
                 replace hx105_4 : (World.drewN w33 nq).cell? _ = _ := hx105_4
                 generalize World.drewN w33 nq = w34 at BK101 BK103 HB HR105_1 HR105_2 HR105_3 HR105_4 hx105_0 hx105_1 hx105_2 hx105_3 hx105_4 ⊢
                 try go_wp2
                 go_meet
                 case rel => exact ⟨_,(true),(by first | rfl | (simp;done) | (simp [*];done)),H',⟨by have := HJ1.out;have := HK2.out;first | omega | exact Nat.le_refl _⟩,⟨by (with_reducible repeat (first | refine zz ?_ _ | refine zj ?_ | refine zq ?_ _));exact BK101.out⟩,⟨by (with_reducible repeat (first | refine zz ?_ _ | refine zj ?_ | refine zq ?_ _));exact BK103.out⟩,⟨by repeat (first | (with_reducible first | exact HB.out | apply qj | apply qz | apply qk | refine qx ?_ GE101.out | refine qx ?_ GE103.out) | exact HB.out)⟩⟩
                ·rw [if_neg c32] at H
                 have c32b0 : decide (5 < (((vq l0_0 x38_2).f2).length : Int)) = false := decide_eq_false c32
                 have c32b1 : decide (5 < ((vq l0_0 x38_2).f2).length) = false := decide_eq_false (by omega)
                 clear c32
                 replace H := Option.bind_eq_some_iff.mp H
                 obtain ⟨t106,A350,H⟩ := H
                 replace H : (if t106 = true then (vv.j2 k2 l0_0 (l0_0.length : Int) x38_2 (decide ((((vq l0_0 x38_2).f4).length : Int) > 4)) l0_0 l0_1 a0_2 a0_3 ((vq l0_0 x38_2).f0) ((vq l0_0 x38_2).f1) ((vq l0_0 x38_2).f2) ((vq l0_0 x38_2).f3) ((vq l0_0 x38_2).f4)) else (vv.j2 k2 l0_0 (l0_0.length : Int) x38_2 true l0_0 l0_1 a0_2 a0_3 ((vq l0_0 x38_2).f0) ((vq l0_0 x38_2).f1) ((vq l0_0 x38_2).f2) ((vq l0_0 x38_2).f3) ((vq l0_0 x38_2).f4))) = some r := H
                 have A35 := qq.mk A350
                 clear A350
                 by_cases c36 : t106 = true
                 ·subst c36
                  have H1 : (vv.j2 k2 l0_0 (l0_0.length : Int) x38_2 (decide ((((vq l0_0 x38_2).f4).length : Int) > 4)) l0_0 l0_1 a0_2 a0_3 ((vq l0_0 x38_2).f0) ((vq l0_0 x38_2).f1) ((vq l0_0 x38_2).f2) ((vq l0_0 x38_2).f3) ((vq l0_0 x38_2).f4)) = some r := by rw [if_pos rfl] at H;exact H
                  clear H
                  have H := H1
                  clear H1
                  have H' := qq.mk H
                  clear H
                  try go_wp2
                  have n0_ : qq ((((((w21.setCell ⟨gb103,0,none⟩ (.string ((vq l0_0 x38_2).f0))).setCell ⟨gb103,1,none⟩ (.slice A102_1 ((vq l0_0 x38_2).f1).length c102_1)).setCell ⟨gb103,2,none⟩ (.slice A102_2 ((vq l0_0 x38_2).f2).length c102_2)).setCell ⟨gb103,3,none⟩ (.slice A102_3 ((vq l0_0 x38_2).f3).length c102_3)).setCell ⟨gb103,4,none⟩ (.slice A102_4 ((vq l0_0 x38_2).f4).length c102_4)).heap[gb101]? = some (.cells #[.slice (some ad102) l0_0.length c0_0,.slice A0_1 l0_1.length c0_1,.int .i64 a0_2,.int .i64 a0_3] 45 (0,0))) := ⟨by (with_reducible repeat (first | refine zz ?_ _ | refine zj ?_ | refine zq ?_ _));refine blk_far ?_ NB101_103.out _;(with_reducible repeat (first | refine zz ?_ _ | refine zj ?_ | refine zq ?_ _));refine blk_far ?_ NB101_103.out _;(with_reducible repeat (first | refine zz ?_ _ | refine zj ?_ | refine zq ?_ _));refine blk_far ?_ NB101_103.out _;(with_reducible repeat (first | refine zz ?_ _ | refine zj ?_ | refine zq ?_ _));refine blk_far ?_ NB101_103.out _;(with_reducible repeat (first | refine zz ?_ _ | refine zj ?_ | refine zq ?_ _));refine blk_far ?_ NB101_103.out _;(with_reducible repeat (first | refine zz ?_ _ | refine zj ?_ | refine zq ?_ _));exact BK101.out⟩
                  have n1_ : qq ((((((w21.setCell ⟨gb103,0,none⟩ (.string ((vq l0_0 x38_2).f0))).setCell ⟨gb103,1,none⟩ (.slice A102_1 ((vq l0_0 x38_2).f1).length c102_1)).setCell ⟨gb103,2,none⟩ (.slice A102_2 ((vq l0_0 x38_2).f2).length c102_2)).setCell ⟨gb103,3,none⟩ (.slice A102_3 ((vq l0_0 x38_2).f3).length c102_3)).setCell ⟨gb103,4,none⟩ (.slice A102_4 ((vq l0_0 x38_2).f4).length c102_4)).heap[gb103]? = some (.cells #[.string ((vq l0_0 x38_2).f0),.slice A102_1 ((vq l0_0 x38_2).f1).length c102_1,.slice A102_2 ((vq l0_0 x38_2).f2).length c102_2,.slice A102_3 ((vq l0_0 x38_2).f3).length c102_3,.slice A102_4 ((vq l0_0 x38_2).f4).length c102_4] 77 (0,0))) := ⟨by (with_reducible repeat (first | refine zz ?_ _ | refine zj ?_ | refine zq ?_ _));refine blk_put (cs := #[.string ((vq l0_0 x38_2).f0),.slice A102_1 ((vq l0_0 x38_2).f1).length c102_1,.slice A102_2 ((vq l0_0 x38_2).f2).length c102_2,.slice A102_3 ((vq l0_0 x38_2).f3).length c102_3,.slice none 0 0]) ?_ 4 _ rfl;(with_reducible repeat (first | refine zz ?_ _ | refine zj ?_ | refine zq ?_ _));refine blk_put (cs := #[.string ((vq l0_0 x38_2).f0),.slice A102_1 ((vq l0_0 x38_2).f1).length c102_1,.slice A102_2 ((vq l0_0 x38_2).f2).length c102_2,.slice none 0 0,.slice none 0 0]) ?_ 3 _ rfl;(with_reducible repeat (first | refine zz ?_ _ | refine zj ?_ | refine zq ?_ _));refine blk_put (cs := #[.string ((vq l0_0 x38_2).f0),.slice A102_1 ((vq l0_0 x38_2).f1).length c102_1,.slice none 0 0,.slice none 0 0,.slice none 0 0]) ?_ 2 _ rfl;(with_reducible repeat (first | refine zz ?_ _ | refine zj ?_ | refine zq ?_ _));refine blk_put (cs := #[.string ((vq l0_0 x38_2).f0),.slice none 0 0,.slice none 0 0,.slice none 0 0,.slice none 0 0]) ?_ 1 _ rfl;(with_reducible repeat (first | refine zz ?_ _ | refine zj ?_ | refine zq ?_ _));refine blk_put (cs := #[.string (⟨#[]⟩ : ByteArray),.slice none 0 0,.slice none 0 0,.slice none 0 0,.slice none 0 0]) ?_ 0 _ rfl;(with_reducible repeat (first | refine zz ?_ _ | refine zj ?_ | refine zq ?_ _));exact BK103.out⟩
                  have n2_ : qq (Below w.heap.size w (((((w21.setCell ⟨gb103,0,none⟩ (.string ((vq l0_0 x38_2).f0))).setCell ⟨gb103,1,none⟩ (.slice A102_1 ((vq l0_0 x38_2).f1).length c102_1)).setCell ⟨gb103,2,none⟩ (.slice A102_2 ((vq l0_0 x38_2).f2).length c102_2)).setCell ⟨gb103,3,none⟩ (.slice A102_3 ((vq l0_0 x38_2).f3).length c102_3)).setCell ⟨gb103,4,none⟩ (.slice A102_4 ((vq l0_0 x38_2).f4).length c102_4))) := ⟨by repeat (first | (with_reducible first | exact HB.out | apply qj | apply qz | apply qk | refine qx ?_ GE101.out | refine qx ?_ GE103.out) | exact HB.out)⟩
                  (try clear BK101)
                  (try clear BK103)
                  (try clear HB)
                  generalize (((((w21.setCell ⟨gb103,0,none⟩ (.string ((vq l0_0 x38_2).f0))).setCell ⟨gb103,1,none⟩ (.slice A102_1 ((vq l0_0 x38_2).f1).length c102_1)).setCell ⟨gb103,2,none⟩ (.slice A102_2 ((vq l0_0 x38_2).f2).length c102_2)).setCell ⟨gb103,3,none⟩ (.slice A102_3 ((vq l0_0 x38_2).f3).length c102_3)).setCell ⟨gb103,4,none⟩ (.slice A102_4 ((vq l0_0 x38_2).f4).length c102_4)) = w37 at n0_ n1_ n2_ ⊢
                  have BK101 := n0_
                  have BK103 := n1_
                  have HB := n2_
                  clear n0_ n1_ n2_
                  have p105 : 0 ≤ ((ji27) : Int) := of_decide_eq_true (by assumption)
                  have q105 : (ji27) < (l0_0.length : Int) := of_decide_eq_true (by assumption)
                  obtain ⟨ad105,A105_1,c105_1,A105_2,c105_2,A105_3,c105_3,A105_4,c105_4,e105,hx105_0,hx105_1,hx105_2,hx105_3,hx105_4,hl105_1,hi105_1,hl105_2,hi105_2,hl105_3,hi105_3,hl105_4,hi105_4⟩ := at_T77 HR0_0.out (ji27) p105 q105
                  have hw105_4 := hx105_4
                  have hw105_3 := hx105_3
                  have hw105_2 := hx105_2
                  have hw105_1 := hx105_1
                  have hw105_0 := hx105_0
                  obtain rfl : ad102 = ad105 := (by injection e105)
                  replace hx105_0 := (HB.out.cell (World.block_lt_of_cell? w _ hx105_0)).trans hx105_0
                  replace hx105_1 := (HB.out.cell (World.block_lt_of_cell? w _ hx105_1)).trans hx105_1
                  replace hx105_2 := (HB.out.cell (World.block_lt_of_cell? w _ hx105_2)).trans hx105_2
                  replace hx105_3 := (HB.out.cell (World.block_lt_of_cell? w _ hx105_3)).trans hx105_3
                  replace hx105_4 := (HB.out.cell (World.block_lt_of_cell? w _ hx105_4)).trans hx105_4
                  have HR105_1 := qq.mk hi105_1
                  have HC105_1 := qq.mk hl105_1
                  clear hi105_1 hl105_1
                  have HR105_2 := qq.mk hi105_2
                  have HC105_2 := qq.mk hl105_2
                  clear hi105_2 hl105_2
                  have HR105_3 := qq.mk hi105_3
                  have HC105_3 := qq.mk hl105_3
                  clear hi105_3 hl105_3
                  have HR105_4 := qq.mk hi105_4
                  have HC105_4 := qq.mk hl105_4
                  clear hi105_4 hl105_4
                  replace p105 := eq_true p105
                  replace q105 := eq_true q105
                  have hS_ := (show (fun w' => w'.cell? ⟨gb103,0,none⟩ = some (.string ((vq l0_0 x38_2).f0)) ∧ w'.cell? ⟨gb103,1,none⟩ = some (.slice A102_1 ((vq l0_0 x38_2).f1).length c102_1) ∧ w'.cell? ⟨gb103,2,none⟩ = some (.slice A102_2 ((vq l0_0 x38_2).f2).length c102_2) ∧ w'.cell? ⟨gb103,3,none⟩ = some (.slice A102_3 ((vq l0_0 x38_2).f3).length c102_3) ∧ w'.cell? ⟨gb103,4,none⟩ = some (.slice A102_4 ((vq l0_0 x38_2).f4).length c102_4) ∧ w'.cell? ⟨gb101,0,none⟩ = some (.slice (some ad102) l0_0.length c0_0) ∧ w'.cell? ⟨gb101,1,none⟩ = some (.slice A0_1 l0_1.length c0_1) ∧ w'.cell? ⟨gb101,2,none⟩ = some (.int .i64 a0_2) ∧ w'.cell? ⟨gb101,3,none⟩ = some (.int .i64 a0_3) ∧ w'.cell? (ad102.add (((ji27)).toNat * 5)) = some (.string ((vq l0_0 (ji27)).f0)) ∧ w'.cell? ⟨(ad102.add (((ji27)).toNat * 5)).block,(ad102.add (((ji27)).toNat * 5)).off + 1,none⟩ = some (.slice A105_1 ((vq l0_0 (ji27)).f1).length c105_1) ∧ w'.cell? ⟨(ad102.add (((ji27)).toNat * 5)).block,(ad102.add (((ji27)).toNat * 5)).off + 2,none⟩ = some (.slice A105_2 ((vq l0_0 (ji27)).f2).length c105_2) ∧ w'.cell? ⟨(ad102.add (((ji27)).toNat * 5)).block,(ad102.add (((ji27)).toNat * 5)).off + 3,none⟩ = some (.slice A105_3 ((vq l0_0 (ji27)).f3).length c105_3) ∧ w'.cell? ⟨(ad102.add (((ji27)).toNat * 5)).block,(ad102.add (((ji27)).toNat * 5)).off + 4,none⟩ = some (.slice A105_4 ((vq l0_0 (ji27)).f4).length c105_4)) (w37) from ⟨(qw BK103.out 0).trans rfl,(qw BK103.out 1).trans rfl,(qw BK103.out 2).trans rfl,(qw BK103.out 3).trans rfl,(qw BK103.out 4).trans rfl,(qw BK101.out 0).trans rfl,(qw BK101.out 1).trans rfl,(qw BK101.out 2).trans rfl,(qw BK101.out 3).trans rfl,((HB.out.cell (World.block_lt_of_cell? w _ hw105_0)).trans hw105_0),((HB.out.cell (World.block_lt_of_cell? w _ hw105_1)).trans hw105_1),((HB.out.cell (World.block_lt_of_cell? w _ hw105_2)).trans hw105_2),((HB.out.cell (World.block_lt_of_cell? w _ hw105_3)).trans hw105_3),((HB.out.cell (World.block_lt_of_cell? w _ hw105_4)).trans hw105_4)⟩)
                  obtain ⟨hS0_,hS1_,hS2_,hS3_,hS4_,hS5_,hS6_,hS7_,hS8_,hS9_,hS10_,hS11_,hS12_,hS13_⟩ := hS_
                  go_quiet ((first | (go_at_call 40;exact Calls.quiet_of ((wv.calls k2 ((vq l0_0 x38_2).f0) true _ A24.out).mono fun _ _ h => ⟨h.1,h.2.out⟩)) | (go_at_call 47;exact Calls.quiet_of ((wk.calls k2 _ _ ((vq l0_0 x38_2).f3) true _ (by repeat (first | exact (Kd.C_below HR102_3.out (by repeat (first | (with_reducible first | exact HB.out | apply qj | apply qz | apply qk | refine qx ?_ GE101.out | refine qx ?_ GE103.out) | exact HB.out))) | (with_reducible refine Kd.C_alloc ?_ _) | (with_reducible refine Kd.C_drewN ?_ _) | (with_reducible refine Kd.C_drew ?_))) (by exact HC102_3.out) A35.out).mono fun _ _ h => ⟨h.1,h.2.out⟩))))
                  clear hS0_ hS1_ hS2_ hS3_ hS4_ hS5_ hS6_ hS7_ hS8_ hS9_ hS10_ hS11_ hS12_ hS13_
                  have n0_ := qq.mk (zz BK101.out nq)
                  have n1_ := qq.mk (zz BK103.out nq)
                  have n2_ := qq.mk (qz HB.out nq)
                  clear BK101
                  clear BK103
                  clear HB
                  have BK101 := n0_
                  have BK103 := n1_
                  have HB := n2_
                  clear n0_ n1_ n2_
                  replace hx105_0 : (World.drewN w37 nq).cell? _ = _ := hx105_0
                  replace hx105_1 : (World.drewN w37 nq).cell? _ = _ := hx105_1
                  replace hx105_2 : (World.drewN w37 nq).cell? _ = _ := hx105_2
                  replace hx105_3 : (World.drewN w37 nq).cell? _ = _ := hx105_3
                  replace hx105_4 : (World.drewN w37 nq).cell? _ = _ := hx105_4
                  generalize World.drewN w37 nq = w38 at BK101 BK103 HB HR105_1 HR105_2 HR105_3 HR105_4 hx105_0 hx105_1 hx105_2 hx105_3 hx105_4 ⊢
                  try go_wp2
                  go_meet
                  case rel => exact ⟨_,(decide ((((vq l0_0 x38_2).f4).length : Int) > 4)),(by first | rfl | (simp;done) | (simp [*];done)),H',⟨by have := HJ1.out;have := HK2.out;first | omega | exact Nat.le_refl _⟩,⟨by (with_reducible repeat (first | refine zz ?_ _ | refine zj ?_ | refine zq ?_ _));exact BK101.out⟩,⟨by (with_reducible repeat (first | refine zz ?_ _ | refine zj ?_ | refine zq ?_ _));exact BK103.out⟩,⟨by repeat (first | (with_reducible first | exact HB.out | apply qj | apply qz | apply qk | refine qx ?_ GE101.out | refine qx ?_ GE103.out) | exact HB.out)⟩⟩
                 ·replace c36 := Bool.eq_false_iff.mpr c36
                  subst c36
                  have H1 : (vv.j2 k2 l0_0 (l0_0.length : Int) x38_2 true l0_0 l0_1 a0_2 a0_3 ((vq l0_0 x38_2).f0) ((vq l0_0 x38_2).f1) ((vq l0_0 x38_2).f2) ((vq l0_0 x38_2).f3) ((vq l0_0 x38_2).f4)) = some r := by rw [if_neg (show ¬ (false = true) by decide)] at H;exact H
                  clear H
                  have H := H1
                  clear H1
                  have H' := qq.mk H
                  clear H
                  try go_wp2
                  have n0_ : qq ((((((w21.setCell ⟨gb103,0,none⟩ (.string ((vq l0_0 x38_2).f0))).setCell ⟨gb103,1,none⟩ (.slice A102_1 ((vq l0_0 x38_2).f1).length c102_1)).setCell ⟨gb103,2,none⟩ (.slice A102_2 ((vq l0_0 x38_2).f2).length c102_2)).setCell ⟨gb103,3,none⟩ (.slice A102_3 ((vq l0_0 x38_2).f3).length c102_3)).setCell ⟨gb103,4,none⟩ (.slice A102_4 ((vq l0_0 x38_2).f4).length c102_4)).heap[gb101]? = some (.cells #[.slice (some ad102) l0_0.length c0_0,.slice A0_1 l0_1.length c0_1,.int .i64 a0_2,.int .i64 a0_3] 45 (0,0))) := ⟨by (with_reducible repeat (first | refine zz ?_ _ | refine zj ?_ | refine zq ?_ _));refine blk_far ?_ NB101_103.out _;(with_reducible repeat (first | refine zz ?_ _ | refine zj ?_ | refine zq ?_ _));refine blk_far ?_ NB101_103.out _;(with_reducible repeat (first | refine zz ?_ _ | refine zj ?_ | refine zq ?_ _));refine blk_far ?_ NB101_103.out _;(with_reducible repeat (first | refine zz ?_ _ | refine zj ?_ | refine zq ?_ _));refine blk_far ?_ NB101_103.out _;(with_reducible repeat (first | refine zz ?_ _ | refine zj ?_ | refine zq ?_ _));refine blk_far ?_ NB101_103.out _;(with_reducible repeat (first | refine zz ?_ _ | refine zj ?_ | refine zq ?_ _));exact BK101.out⟩
                  have n1_ : qq ((((((w21.setCell ⟨gb103,0,none⟩ (.string ((vq l0_0 x38_2).f0))).setCell ⟨gb103,1,none⟩ (.slice A102_1 ((vq l0_0 x38_2).f1).length c102_1)).setCell ⟨gb103,2,none⟩ (.slice A102_2 ((vq l0_0 x38_2).f2).length c102_2)).setCell ⟨gb103,3,none⟩ (.slice A102_3 ((vq l0_0 x38_2).f3).length c102_3)).setCell ⟨gb103,4,none⟩ (.slice A102_4 ((vq l0_0 x38_2).f4).length c102_4)).heap[gb103]? = some (.cells #[.string ((vq l0_0 x38_2).f0),.slice A102_1 ((vq l0_0 x38_2).f1).length c102_1,.slice A102_2 ((vq l0_0 x38_2).f2).length c102_2,.slice A102_3 ((vq l0_0 x38_2).f3).length c102_3,.slice A102_4 ((vq l0_0 x38_2).f4).length c102_4] 77 (0,0))) := ⟨by (with_reducible repeat (first | refine zz ?_ _ | refine zj ?_ | refine zq ?_ _));refine blk_put (cs := #[.string ((vq l0_0 x38_2).f0),.slice A102_1 ((vq l0_0 x38_2).f1).length c102_1,.slice A102_2 ((vq l0_0 x38_2).f2).length c102_2,.slice A102_3 ((vq l0_0 x38_2).f3).length c102_3,.slice none 0 0]) ?_ 4 _ rfl;(with_reducible repeat (first | refine zz ?_ _ | refine zj ?_ | refine zq ?_ _));refine blk_put (cs := #[.string ((vq l0_0 x38_2).f0),.slice A102_1 ((vq l0_0 x38_2).f1).length c102_1,.slice A102_2 ((vq l0_0 x38_2).f2).length c102_2,.slice none 0 0,.slice none 0 0]) ?_ 3 _ rfl;(with_reducible repeat (first | refine zz ?_ _ | refine zj ?_ | refine zq ?_ _));refine blk_put (cs := #[.string ((vq l0_0 x38_2).f0),.slice A102_1 ((vq l0_0 x38_2).f1).length c102_1,.slice none 0 0,.slice none 0 0,.slice none 0 0]) ?_ 2 _ rfl;(with_reducible repeat (first | refine zz ?_ _ | refine zj ?_ | refine zq ?_ _));refine blk_put (cs := #[.string ((vq l0_0 x38_2).f0),.slice none 0 0,.slice none 0 0,.slice none 0 0,.slice none 0 0]) ?_ 1 _ rfl;(with_reducible repeat (first | refine zz ?_ _ | refine zj ?_ | refine zq ?_ _));refine blk_put (cs := #[.string (⟨#[]⟩ : ByteArray),.slice none 0 0,.slice none 0 0,.slice none 0 0,.slice none 0 0]) ?_ 0 _ rfl;(with_reducible repeat (first | refine zz ?_ _ | refine zj ?_ | refine zq ?_ _));exact BK103.out⟩
                  have n2_ : qq (Below w.heap.size w (((((w21.setCell ⟨gb103,0,none⟩ (.string ((vq l0_0 x38_2).f0))).setCell ⟨gb103,1,none⟩ (.slice A102_1 ((vq l0_0 x38_2).f1).length c102_1)).setCell ⟨gb103,2,none⟩ (.slice A102_2 ((vq l0_0 x38_2).f2).length c102_2)).setCell ⟨gb103,3,none⟩ (.slice A102_3 ((vq l0_0 x38_2).f3).length c102_3)).setCell ⟨gb103,4,none⟩ (.slice A102_4 ((vq l0_0 x38_2).f4).length c102_4))) := ⟨by repeat (first | (with_reducible first | exact HB.out | apply qj | apply qz | apply qk | refine qx ?_ GE101.out | refine qx ?_ GE103.out) | exact HB.out)⟩
                  (try clear BK101)
                  (try clear BK103)
                  (try clear HB)
                  generalize (((((w21.setCell ⟨gb103,0,none⟩ (.string ((vq l0_0 x38_2).f0))).setCell ⟨gb103,1,none⟩ (.slice A102_1 ((vq l0_0 x38_2).f1).length c102_1)).setCell ⟨gb103,2,none⟩ (.slice A102_2 ((vq l0_0 x38_2).f2).length c102_2)).setCell ⟨gb103,3,none⟩ (.slice A102_3 ((vq l0_0 x38_2).f3).length c102_3)).setCell ⟨gb103,4,none⟩ (.slice A102_4 ((vq l0_0 x38_2).f4).length c102_4)) = w39 at n0_ n1_ n2_ ⊢
                  have BK101 := n0_
                  have BK103 := n1_
                  have HB := n2_
                  clear n0_ n1_ n2_
                  have p105 : 0 ≤ ((ji27) : Int) := of_decide_eq_true (by assumption)
                  have q105 : (ji27) < (l0_0.length : Int) := of_decide_eq_true (by assumption)
                  obtain ⟨ad105,A105_1,c105_1,A105_2,c105_2,A105_3,c105_3,A105_4,c105_4,e105,hx105_0,hx105_1,hx105_2,hx105_3,hx105_4,hl105_1,hi105_1,hl105_2,hi105_2,hl105_3,hi105_3,hl105_4,hi105_4⟩ := at_T77 HR0_0.out (ji27) p105 q105
                  have hw105_4 := hx105_4
                  have hw105_3 := hx105_3
                  have hw105_2 := hx105_2
                  have hw105_1 := hx105_1
                  have hw105_0 := hx105_0
                  obtain rfl : ad102 = ad105 := (by injection e105)
                  replace hx105_0 := (HB.out.cell (World.block_lt_of_cell? w _ hx105_0)).trans hx105_0
                  replace hx105_1 := (HB.out.cell (World.block_lt_of_cell? w _ hx105_1)).trans hx105_1
                  replace hx105_2 := (HB.out.cell (World.block_lt_of_cell? w _ hx105_2)).trans hx105_2
                  replace hx105_3 := (HB.out.cell (World.block_lt_of_cell? w _ hx105_3)).trans hx105_3
                  replace hx105_4 := (HB.out.cell (World.block_lt_of_cell? w _ hx105_4)).trans hx105_4
                  have HR105_1 := qq.mk hi105_1
                  have HC105_1 := qq.mk hl105_1
                  clear hi105_1 hl105_1
                  have HR105_2 := qq.mk hi105_2
                  have HC105_2 := qq.mk hl105_2
                  clear hi105_2 hl105_2
                  have HR105_3 := qq.mk hi105_3
                  have HC105_3 := qq.mk hl105_3
                  clear hi105_3 hl105_3
                  have HR105_4 := qq.mk hi105_4
                  have HC105_4 := qq.mk hl105_4
                  clear hi105_4 hl105_4
                  replace p105 := eq_true p105
                  replace q105 := eq_true q105
                  have hS_ := (show (fun w' => w'.cell? ⟨gb103,0,none⟩ = some (.string ((vq l0_0 x38_2).f0)) ∧ w'.cell? ⟨gb103,1,none⟩ = some (.slice A102_1 ((vq l0_0 x38_2).f1).length c102_1) ∧ w'.cell? ⟨gb103,2,none⟩ = some (.slice A102_2 ((vq l0_0 x38_2).f2).length c102_2) ∧ w'.cell? ⟨gb103,3,none⟩ = some (.slice A102_3 ((vq l0_0 x38_2).f3).length c102_3) ∧ w'.cell? ⟨gb103,4,none⟩ = some (.slice A102_4 ((vq l0_0 x38_2).f4).length c102_4) ∧ w'.cell? ⟨gb101,0,none⟩ = some (.slice (some ad102) l0_0.length c0_0) ∧ w'.cell? ⟨gb101,1,none⟩ = some (.slice A0_1 l0_1.length c0_1) ∧ w'.cell? ⟨gb101,2,none⟩ = some (.int .i64 a0_2) ∧ w'.cell? ⟨gb101,3,none⟩ = some (.int .i64 a0_3) ∧ w'.cell? (ad102.add (((ji27)).toNat * 5)) = some (.string ((vq l0_0 (ji27)).f0)) ∧ w'.cell? ⟨(ad102.add (((ji27)).toNat * 5)).block,(ad102.add (((ji27)).toNat * 5)).off + 1,none⟩ = some (.slice A105_1 ((vq l0_0 (ji27)).f1).length c105_1) ∧ w'.cell? ⟨(ad102.add (((ji27)).toNat * 5)).block,(ad102.add (((ji27)).toNat * 5)).off + 2,none⟩ = some (.slice A105_2 ((vq l0_0 (ji27)).f2).length c105_2) ∧ w'.cell? ⟨(ad102.add (((ji27)).toNat * 5)).block,(ad102.add (((ji27)).toNat * 5)).off + 3,none⟩ = some (.slice A105_3 ((vq l0_0 (ji27)).f3).length c105_3) ∧ w'.cell? ⟨(ad102.add (((ji27)).toNat * 5)).block,(ad102.add (((ji27)).toNat * 5)).off + 4,none⟩ = some (.slice A105_4 ((vq l0_0 (ji27)).f4).length c105_4)) (w39) from ⟨(qw BK103.out 0).trans rfl,(qw BK103.out 1).trans rfl,(qw BK103.out 2).trans rfl,(qw BK103.out 3).trans rfl,(qw BK103.out 4).trans rfl,(qw BK101.out 0).trans rfl,(qw BK101.out 1).trans rfl,(qw BK101.out 2).trans rfl,(qw BK101.out 3).trans rfl,((HB.out.cell (World.block_lt_of_cell? w _ hw105_0)).trans hw105_0),((HB.out.cell (World.block_lt_of_cell? w _ hw105_1)).trans hw105_1),((HB.out.cell (World.block_lt_of_cell? w _ hw105_2)).trans hw105_2),((HB.out.cell (World.block_lt_of_cell? w _ hw105_3)).trans hw105_3),((HB.out.cell (World.block_lt_of_cell? w _ hw105_4)).trans hw105_4)⟩)
                  obtain ⟨hS0_,hS1_,hS2_,hS3_,hS4_,hS5_,hS6_,hS7_,hS8_,hS9_,hS10_,hS11_,hS12_,hS13_⟩ := hS_
                  go_quiet ((first | (go_at_call 40;exact Calls.quiet_of ((wv.calls k2 ((vq l0_0 x38_2).f0) true _ A24.out).mono fun _ _ h => ⟨h.1,h.2.out⟩)) | (go_at_call 47;exact Calls.quiet_of ((wk.calls k2 _ _ ((vq l0_0 x38_2).f3) false _ (by repeat (first | exact (Kd.C_below HR102_3.out (by repeat (first | (with_reducible first | exact HB.out | apply qj | apply qz | apply qk | refine qx ?_ GE101.out | refine qx ?_ GE103.out) | exact HB.out))) | (with_reducible refine Kd.C_alloc ?_ _) | (with_reducible refine Kd.C_drewN ?_ _) | (with_reducible refine Kd.C_drew ?_))) (by exact HC102_3.out) A35.out).mono fun _ _ h => ⟨h.1,h.2.out⟩))))
                  clear hS0_ hS1_ hS2_ hS3_ hS4_ hS5_ hS6_ hS7_ hS8_ hS9_ hS10_ hS11_ hS12_ hS13_
                  have n0_ := qq.mk (zz BK101.out nq)
                  have n1_ := qq.mk (zz BK103.out nq)
                  have n2_ := qq.mk (qz HB.out nq)
                  clear BK101
                  clear BK103
                  clear HB
                  have BK101 := n0_
                  have BK103 := n1_
                  have HB := n2_
                  clear n0_ n1_ n2_
                  replace hx105_0 : (World.drewN w39 nq).cell? _ = _ := hx105_0
                  replace hx105_1 : (World.drewN w39 nq).cell? _ = _ := hx105_1
                  replace hx105_2 : (World.drewN w39 nq).cell? _ = _ := hx105_2
                  replace hx105_3 : (World.drewN w39 nq).cell? _ = _ := hx105_3
                  replace hx105_4 : (World.drewN w39 nq).cell? _ = _ := hx105_4
                  generalize World.drewN w39 nq = w40 at BK101 BK103 HB HR105_1 HR105_2 HR105_3 HR105_4 hx105_0 hx105_1 hx105_2 hx105_3 hx105_4 ⊢
                  try go_wp2
                  go_meet
                  case rel => exact ⟨_,(true),(by first | rfl | (simp;done) | (simp [*];done)),H',⟨by have := HJ1.out;have := HK2.out;first | omega | exact Nat.le_refl _⟩,⟨by (with_reducible repeat (first | refine zz ?_ _ | refine zj ?_ | refine zq ?_ _));exact BK101.out⟩,⟨by (with_reducible repeat (first | refine zz ?_ _ | refine zj ?_ | refine zq ?_ _));exact BK103.out⟩,⟨by repeat (first | (with_reducible first | exact HB.out | apply qj | apply qz | apply qk | refine qx ?_ GE101.out | refine qx ?_ GE103.out) | exact HB.out)⟩⟩
               ·rw [if_neg c31] at H
                have c31b0 : ((((vq l0_0 x38_2).f1).length : Int) == 0) = false := beq_eq_false_iff_ne.mpr c31
                have c31b1 : ((((vq l0_0 x38_2).f1).length : Int) != 0) = true := bne_iff_ne.mpr c31
                have c31b2 : ¬ (((vq l0_0 x38_2).f1) = []) := fun h_ => c31 (by rw [h_];rfl)
                by_cases c41 : (((vq l0_0 x38_2).f1).length : Int) = 16
                ·rw [if_pos c41] at H
                 have c41b0 : ((((vq l0_0 x38_2).f1).length : Int) == 16) = true := beq_iff_eq.mpr c41
                 have c41b1 : ((((vq l0_0 x38_2).f1).length : Int) != 16) = false := bne_eq_false_iff_eq.mpr c41
                 clear c41
                 by_cases c42 : (((vq l0_0 x38_2).f2).length : Int) > 5
                 ·rw [if_pos c42] at H
                  have c42b0 : decide (5 < (((vq l0_0 x38_2).f2).length : Int)) = true := decide_eq_true c42
                  have c42b1 : decide (5 < ((vq l0_0 x38_2).f2).length) = true := decide_eq_true (by omega)
                  clear c42
                  have H' := qq.mk H
                  clear H
                  try go_wp2
                  have n0_ : qq ((((((w21.setCell ⟨gb103,0,none⟩ (.string ((vq l0_0 x38_2).f0))).setCell ⟨gb103,1,none⟩ (.slice A102_1 ((vq l0_0 x38_2).f1).length c102_1)).setCell ⟨gb103,2,none⟩ (.slice A102_2 ((vq l0_0 x38_2).f2).length c102_2)).setCell ⟨gb103,3,none⟩ (.slice A102_3 ((vq l0_0 x38_2).f3).length c102_3)).setCell ⟨gb103,4,none⟩ (.slice A102_4 ((vq l0_0 x38_2).f4).length c102_4)).heap[gb101]? = some (.cells #[.slice (some ad102) l0_0.length c0_0,.slice A0_1 l0_1.length c0_1,.int .i64 a0_2,.int .i64 a0_3] 45 (0,0))) := ⟨by (with_reducible repeat (first | refine zz ?_ _ | refine zj ?_ | refine zq ?_ _));refine blk_far ?_ NB101_103.out _;(with_reducible repeat (first | refine zz ?_ _ | refine zj ?_ | refine zq ?_ _));refine blk_far ?_ NB101_103.out _;(with_reducible repeat (first | refine zz ?_ _ | refine zj ?_ | refine zq ?_ _));refine blk_far ?_ NB101_103.out _;(with_reducible repeat (first | refine zz ?_ _ | refine zj ?_ | refine zq ?_ _));refine blk_far ?_ NB101_103.out _;(with_reducible repeat (first | refine zz ?_ _ | refine zj ?_ | refine zq ?_ _));refine blk_far ?_ NB101_103.out _;(with_reducible repeat (first | refine zz ?_ _ | refine zj ?_ | refine zq ?_ _));exact BK101.out⟩
                  have n1_ : qq ((((((w21.setCell ⟨gb103,0,none⟩ (.string ((vq l0_0 x38_2).f0))).setCell ⟨gb103,1,none⟩ (.slice A102_1 ((vq l0_0 x38_2).f1).length c102_1)).setCell ⟨gb103,2,none⟩ (.slice A102_2 ((vq l0_0 x38_2).f2).length c102_2)).setCell ⟨gb103,3,none⟩ (.slice A102_3 ((vq l0_0 x38_2).f3).length c102_3)).setCell ⟨gb103,4,none⟩ (.slice A102_4 ((vq l0_0 x38_2).f4).length c102_4)).heap[gb103]? = some (.cells #[.string ((vq l0_0 x38_2).f0),.slice A102_1 ((vq l0_0 x38_2).f1).length c102_1,.slice A102_2 ((vq l0_0 x38_2).f2).length c102_2,.slice A102_3 ((vq l0_0 x38_2).f3).length c102_3,.slice A102_4 ((vq l0_0 x38_2).f4).length c102_4] 77 (0,0))) := ⟨by (with_reducible repeat (first | refine zz ?_ _ | refine zj ?_ | refine zq ?_ _));refine blk_put (cs := #[.string ((vq l0_0 x38_2).f0),.slice A102_1 ((vq l0_0 x38_2).f1).length c102_1,.slice A102_2 ((vq l0_0 x38_2).f2).length c102_2,.slice A102_3 ((vq l0_0 x38_2).f3).length c102_3,.slice none 0 0]) ?_ 4 _ rfl;(with_reducible repeat (first | refine zz ?_ _ | refine zj ?_ | refine zq ?_ _));refine blk_put (cs := #[.string ((vq l0_0 x38_2).f0),.slice A102_1 ((vq l0_0 x38_2).f1).length c102_1,.slice A102_2 ((vq l0_0 x38_2).f2).length c102_2,.slice none 0 0,.slice none 0 0]) ?_ 3 _ rfl;(with_reducible repeat (first | refine zz ?_ _ | refine zj ?_ | refine zq ?_ _));refine blk_put (cs := #[.string ((vq l0_0 x38_2).f0),.slice A102_1 ((vq l0_0 x38_2).f1).length c102_1,.slice none 0 0,.slice none 0 0,.slice none 0 0]) ?_ 2 _ rfl;(with_reducible repeat (first | refine zz ?_ _ | refine zj ?_ | refine zq ?_ _));refine blk_put (cs := #[.string ((vq l0_0 x38_2).f0),.slice none 0 0,.slice none 0 0,.slice none 0 0,.slice none 0 0]) ?_ 1 _ rfl;(with_reducible repeat (first | refine zz ?_ _ | refine zj ?_ | refine zq ?_ _));refine blk_put (cs := #[.string (⟨#[]⟩ : ByteArray),.slice none 0 0,.slice none 0 0,.slice none 0 0,.slice none 0 0]) ?_ 0 _ rfl;(with_reducible repeat (first | refine zz ?_ _ | refine zj ?_ | refine zq ?_ _));exact BK103.out⟩
                  have n2_ : qq (Below w.heap.size w (((((w21.setCell ⟨gb103,0,none⟩ (.string ((vq l0_0 x38_2).f0))).setCell ⟨gb103,1,none⟩ (.slice A102_1 ((vq l0_0 x38_2).f1).length c102_1)).setCell ⟨gb103,2,none⟩ (.slice A102_2 ((vq l0_0 x38_2).f2).length c102_2)).setCell ⟨gb103,3,none⟩ (.slice A102_3 ((vq l0_0 x38_2).f3).length c102_3)).setCell ⟨gb103,4,none⟩ (.slice A102_4 ((vq l0_0 x38_2).f4).length c102_4))) := ⟨by repeat (first | (with_reducible first | exact HB.out | apply qj | apply qz | apply qk | refine qx ?_ GE101.out | refine qx ?_ GE103.out) | exact HB.out)⟩
                  (try clear BK101)
                  (try clear BK103)
                  (try clear HB)
                  generalize (((((w21.setCell ⟨gb103,0,none⟩ (.string ((vq l0_0 x38_2).f0))).setCell ⟨gb103,1,none⟩ (.slice A102_1 ((vq l0_0 x38_2).f1).length c102_1)).setCell ⟨gb103,2,none⟩ (.slice A102_2 ((vq l0_0 x38_2).f2).length c102_2)).setCell ⟨gb103,3,none⟩ (.slice A102_3 ((vq l0_0 x38_2).f3).length c102_3)).setCell ⟨gb103,4,none⟩ (.slice A102_4 ((vq l0_0 x38_2).f4).length c102_4)) = w43 at n0_ n1_ n2_ ⊢
                  have BK101 := n0_
                  have BK103 := n1_
                  have HB := n2_
                  clear n0_ n1_ n2_
                  have p105 : 0 ≤ ((ji27) : Int) := of_decide_eq_true (by assumption)
                  have q105 : (ji27) < (l0_0.length : Int) := of_decide_eq_true (by assumption)
                  obtain ⟨ad105,A105_1,c105_1,A105_2,c105_2,A105_3,c105_3,A105_4,c105_4,e105,hx105_0,hx105_1,hx105_2,hx105_3,hx105_4,hl105_1,hi105_1,hl105_2,hi105_2,hl105_3,hi105_3,hl105_4,hi105_4⟩ := at_T77 HR0_0.out (ji27) p105 q105
                  have hw105_4 := hx105_4
                  have hw105_3 := hx105_3
                  have hw105_2 := hx105_2
                  have hw105_1 := hx105_1
                  have hw105_0 := hx105_0
                  obtain rfl : ad102 = ad105 := (by injection e105)
                  replace hx105_0 := (HB.out.cell (World.block_lt_of_cell? w _ hx105_0)).trans hx105_0
                  replace hx105_1 := (HB.out.cell (World.block_lt_of_cell? w _ hx105_1)).trans hx105_1
                  replace hx105_2 := (HB.out.cell (World.block_lt_of_cell? w _ hx105_2)).trans hx105_2
                  replace hx105_3 := (HB.out.cell (World.block_lt_of_cell? w _ hx105_3)).trans hx105_3
                  replace hx105_4 := (HB.out.cell (World.block_lt_of_cell? w _ hx105_4)).trans hx105_4
                  have HR105_1 := qq.mk hi105_1
                  have HC105_1 := qq.mk hl105_1
                  clear hi105_1 hl105_1
                  have HR105_2 := qq.mk hi105_2
                  have HC105_2 := qq.mk hl105_2
                  clear hi105_2 hl105_2
                  have HR105_3 := qq.mk hi105_3
                  have HC105_3 := qq.mk hl105_3
                  clear hi105_3 hl105_3
                  have HR105_4 := qq.mk hi105_4
                  have HC105_4 := qq.mk hl105_4
                  clear hi105_4 hl105_4
                  replace p105 := eq_true p105
                  replace q105 := eq_true q105
                  have hS_ := (show (fun w' => w'.cell? ⟨gb103,0,none⟩ = some (.string ((vq l0_0 x38_2).f0)) ∧ w'.cell? ⟨gb103,1,none⟩ = some (.slice A102_1 ((vq l0_0 x38_2).f1).length c102_1) ∧ w'.cell? ⟨gb103,2,none⟩ = some (.slice A102_2 ((vq l0_0 x38_2).f2).length c102_2) ∧ w'.cell? ⟨gb103,3,none⟩ = some (.slice A102_3 ((vq l0_0 x38_2).f3).length c102_3) ∧ w'.cell? ⟨gb103,4,none⟩ = some (.slice A102_4 ((vq l0_0 x38_2).f4).length c102_4) ∧ w'.cell? ⟨gb101,0,none⟩ = some (.slice (some ad102) l0_0.length c0_0) ∧ w'.cell? ⟨gb101,1,none⟩ = some (.slice A0_1 l0_1.length c0_1) ∧ w'.cell? ⟨gb101,2,none⟩ = some (.int .i64 a0_2) ∧ w'.cell? ⟨gb101,3,none⟩ = some (.int .i64 a0_3) ∧ w'.cell? (ad102.add (((ji27)).toNat * 5)) = some (.string ((vq l0_0 (ji27)).f0)) ∧ w'.cell? ⟨(ad102.add (((ji27)).toNat * 5)).block,(ad102.add (((ji27)).toNat * 5)).off + 1,none⟩ = some (.slice A105_1 ((vq l0_0 (ji27)).f1).length c105_1) ∧ w'.cell? ⟨(ad102.add (((ji27)).toNat * 5)).block,(ad102.add (((ji27)).toNat * 5)).off + 2,none⟩ = some (.slice A105_2 ((vq l0_0 (ji27)).f2).length c105_2) ∧ w'.cell? ⟨(ad102.add (((ji27)).toNat * 5)).block,(ad102.add (((ji27)).toNat * 5)).off + 3,none⟩ = some (.slice A105_3 ((vq l0_0 (ji27)).f3).length c105_3) ∧ w'.cell? ⟨(ad102.add (((ji27)).toNat * 5)).block,(ad102.add (((ji27)).toNat * 5)).off + 4,none⟩ = some (.slice A105_4 ((vq l0_0 (ji27)).f4).length c105_4)) (w43) from ⟨(qw BK103.out 0).trans rfl,(qw BK103.out 1).trans rfl,(qw BK103.out 2).trans rfl,(qw BK103.out 3).trans rfl,(qw BK103.out 4).trans rfl,(qw BK101.out 0).trans rfl,(qw BK101.out 1).trans rfl,(qw BK101.out 2).trans rfl,(qw BK101.out 3).trans rfl,((HB.out.cell (World.block_lt_of_cell? w _ hw105_0)).trans hw105_0),((HB.out.cell (World.block_lt_of_cell? w _ hw105_1)).trans hw105_1),((HB.out.cell (World.block_lt_of_cell? w _ hw105_2)).trans hw105_2),((HB.out.cell (World.block_lt_of_cell? w _ hw105_3)).trans hw105_3),((HB.out.cell (World.block_lt_of_cell? w _ hw105_4)).trans hw105_4)⟩)
                  obtain ⟨hS0_,hS1_,hS2_,hS3_,hS4_,hS5_,hS6_,hS7_,hS8_,hS9_,hS10_,hS11_,hS12_,hS13_⟩ := hS_
                  go_quiet ((first | (go_at_call 40;exact Calls.quiet_of ((wv.calls k2 ((vq l0_0 x38_2).f0) true _ A24.out).mono fun _ _ h => ⟨h.1,h.2.out⟩))))
                  clear hS0_ hS1_ hS2_ hS3_ hS4_ hS5_ hS6_ hS7_ hS8_ hS9_ hS10_ hS11_ hS12_ hS13_
                  have n0_ := qq.mk (zz BK101.out nq)
                  have n1_ := qq.mk (zz BK103.out nq)
                  have n2_ := qq.mk (qz HB.out nq)
                  clear BK101
                  clear BK103
                  clear HB
                  have BK101 := n0_
                  have BK103 := n1_
                  have HB := n2_
                  clear n0_ n1_ n2_
                  replace hx105_0 : (World.drewN w43 nq).cell? _ = _ := hx105_0
                  replace hx105_1 : (World.drewN w43 nq).cell? _ = _ := hx105_1
                  replace hx105_2 : (World.drewN w43 nq).cell? _ = _ := hx105_2
                  replace hx105_3 : (World.drewN w43 nq).cell? _ = _ := hx105_3
                  replace hx105_4 : (World.drewN w43 nq).cell? _ = _ := hx105_4
                  generalize World.drewN w43 nq = w44 at BK101 BK103 HB HR105_1 HR105_2 HR105_3 HR105_4 hx105_0 hx105_1 hx105_2 hx105_3 hx105_4 ⊢
                  try go_wp2
                  go_meet
                  case rel => exact ⟨_,(true),(by first | rfl | (simp;done) | (simp [*];done)),H',⟨by have := HJ1.out;have := HK2.out;first | omega | exact Nat.le_refl _⟩,⟨by (with_reducible repeat (first | refine zz ?_ _ | refine zj ?_ | refine zq ?_ _));exact BK101.out⟩,⟨by (with_reducible repeat (first | refine zz ?_ _ | refine zj ?_ | refine zq ?_ _));exact BK103.out⟩,⟨by repeat (first | (with_reducible first | exact HB.out | apply qj | apply qz | apply qk | refine qx ?_ GE101.out | refine qx ?_ GE103.out) | exact HB.out)⟩⟩
                 ·rw [if_neg c42] at H
                  have c42b0 : decide (5 < (((vq l0_0 x38_2).f2).length : Int)) = false := decide_eq_false c42
                  have c42b1 : decide (5 < ((vq l0_0 x38_2).f2).length) = false := decide_eq_false (by omega)
                  clear c42
                  replace H := Option.bind_eq_some_iff.mp H
                  obtain ⟨t107,A450,H⟩ := H
                  replace H : (if t107 = true then (vv.j2 k2 l0_0 (l0_0.length : Int) x38_2 (decide ((((vq l0_0 x38_2).f4).length : Int) > 4)) l0_0 l0_1 a0_2 a0_3 ((vq l0_0 x38_2).f0) ((vq l0_0 x38_2).f1) ((vq l0_0 x38_2).f2) ((vq l0_0 x38_2).f3) ((vq l0_0 x38_2).f4)) else (vv.j2 k2 l0_0 (l0_0.length : Int) x38_2 true l0_0 l0_1 a0_2 a0_3 ((vq l0_0 x38_2).f0) ((vq l0_0 x38_2).f1) ((vq l0_0 x38_2).f2) ((vq l0_0 x38_2).f3) ((vq l0_0 x38_2).f4))) = some r := H
                  have A45 := qq.mk A450
                  clear A450
                  by_cases c46 : t107 = true
                  ·subst c46
                   have H1 : (vv.j2 k2 l0_0 (l0_0.length : Int) x38_2 (decide ((((vq l0_0 x38_2).f4).length : Int) > 4)) l0_0 l0_1 a0_2 a0_3 ((vq l0_0 x38_2).f0) ((vq l0_0 x38_2).f1) ((vq l0_0 x38_2).f2) ((vq l0_0 x38_2).f3) ((vq l0_0 x38_2).f4)) = some r := by rw [if_pos rfl] at H;exact H
                   clear H
                   have H := H1
                   clear H1
                   have H' := qq.mk H
                   clear H
                   try go_wp2
                   have n0_ : qq ((((((w21.setCell ⟨gb103,0,none⟩ (.string ((vq l0_0 x38_2).f0))).setCell ⟨gb103,1,none⟩ (.slice A102_1 ((vq l0_0 x38_2).f1).length c102_1)).setCell ⟨gb103,2,none⟩ (.slice A102_2 ((vq l0_0 x38_2).f2).length c102_2)).setCell ⟨gb103,3,none⟩ (.slice A102_3 ((vq l0_0 x38_2).f3).length c102_3)).setCell ⟨gb103,4,none⟩ (.slice A102_4 ((vq l0_0 x38_2).f4).length c102_4)).heap[gb101]? = some (.cells #[.slice (some ad102) l0_0.length c0_0,.slice A0_1 l0_1.length c0_1,.int .i64 a0_2,.int .i64 a0_3] 45 (0,0))) := ⟨by (with_reducible repeat (first | refine zz ?_ _ | refine zj ?_ | refine zq ?_ _));refine blk_far ?_ NB101_103.out _;(with_reducible repeat (first | refine zz ?_ _ | refine zj ?_ | refine zq ?_ _));refine blk_far ?_ NB101_103.out _;(with_reducible repeat (first | refine zz ?_ _ | refine zj ?_ | refine zq ?_ _));refine blk_far ?_ NB101_103.out _;(with_reducible repeat (first | refine zz ?_ _ | refine zj ?_ | refine zq ?_ _));refine blk_far ?_ NB101_103.out _;(with_reducible repeat (first | refine zz ?_ _ | refine zj ?_ | refine zq ?_ _));refine blk_far ?_ NB101_103.out _;(with_reducible repeat (first | refine zz ?_ _ | refine zj ?_ | refine zq ?_ _));exact BK101.out⟩
                   have n1_ : qq ((((((w21.setCell ⟨gb103,0,none⟩ (.string ((vq l0_0 x38_2).f0))).setCell ⟨gb103,1,none⟩ (.slice A102_1 ((vq l0_0 x38_2).f1).length c102_1)).setCell ⟨gb103,2,none⟩ (.slice A102_2 ((vq l0_0 x38_2).f2).length c102_2)).setCell ⟨gb103,3,none⟩ (.slice A102_3 ((vq l0_0 x38_2).f3).length c102_3)).setCell ⟨gb103,4,none⟩ (.slice A102_4 ((vq l0_0 x38_2).f4).length c102_4)).heap[gb103]? = some (.cells #[.string ((vq l0_0 x38_2).f0),.slice A102_1 ((vq l0_0 x38_2).f1).length c102_1,.slice A102_2 ((vq l0_0 x38_2).f2).length c102_2,.slice A102_3 ((vq l0_0 x38_2).f3).length c102_3,.slice A102_4 ((vq l0_0 x38_2).f4).length c102_4] 77 (0,0))) := ⟨by (with_reducible repeat (first | refine zz ?_ _ | refine zj ?_ | refine zq ?_ _));refine blk_put (cs := #[.string ((vq l0_0 x38_2).f0),.slice A102_1 ((vq l0_0 x38_2).f1).length c102_1,.slice A102_2 ((vq l0_0 x38_2).f2).length c102_2,.slice A102_3 ((vq l0_0 x38_2).f3).length c102_3,.slice none 0 0]) ?_ 4 _ rfl;(with_reducible repeat (first | refine zz ?_ _ | refine zj ?_ | refine zq ?_ _));refine blk_put (cs := #[.string ((vq l0_0 x38_2).f0),.slice A102_1 ((vq l0_0 x38_2).f1).length c102_1,.slice A102_2 ((vq l0_0 x38_2).f2).length c102_2,.slice none 0 0,.slice none 0 0]) ?_ 3 _ rfl;(with_reducible repeat (first | refine zz ?_ _ | refine zj ?_ | refine zq ?_ _));refine blk_put (cs := #[.string ((vq l0_0 x38_2).f0),.slice A102_1 ((vq l0_0 x38_2).f1).length c102_1,.slice none 0 0,.slice none 0 0,.slice none 0 0]) ?_ 2 _ rfl;(with_reducible repeat (first | refine zz ?_ _ | refine zj ?_ | refine zq ?_ _));refine blk_put (cs := #[.string ((vq l0_0 x38_2).f0),.slice none 0 0,.slice none 0 0,.slice none 0 0,.slice none 0 0]) ?_ 1 _ rfl;(with_reducible repeat (first | refine zz ?_ _ | refine zj ?_ | refine zq ?_ _));refine blk_put (cs := #[.string (⟨#[]⟩ : ByteArray),.slice none 0 0,.slice none 0 0,.slice none 0 0,.slice none 0 0]) ?_ 0 _ rfl;(with_reducible repeat (first | refine zz ?_ _ | refine zj ?_ | refine zq ?_ _));exact BK103.out⟩
                   have n2_ : qq (Below w.heap.size w (((((w21.setCell ⟨gb103,0,none⟩ (.string ((vq l0_0 x38_2).f0))).setCell ⟨gb103,1,none⟩ (.slice A102_1 ((vq l0_0 x38_2).f1).length c102_1)).setCell ⟨gb103,2,none⟩ (.slice A102_2 ((vq l0_0 x38_2).f2).length c102_2)).setCell ⟨gb103,3,none⟩ (.slice A102_3 ((vq l0_0 x38_2).f3).length c102_3)).setCell ⟨gb103,4,none⟩ (.slice A102_4 ((vq l0_0 x38_2).f4).length c102_4))) := ⟨by repeat (first | (with_reducible first | exact HB.out | apply qj | apply qz | apply qk | refine qx ?_ GE101.out | refine qx ?_ GE103.out) | exact HB.out)⟩
                   (try clear BK101)
                   (try clear BK103)
                   (try clear HB)
                   generalize (((((w21.setCell ⟨gb103,0,none⟩ (.string ((vq l0_0 x38_2).f0))).setCell ⟨gb103,1,none⟩ (.slice A102_1 ((vq l0_0 x38_2).f1).length c102_1)).setCell ⟨gb103,2,none⟩ (.slice A102_2 ((vq l0_0 x38_2).f2).length c102_2)).setCell ⟨gb103,3,none⟩ (.slice A102_3 ((vq l0_0 x38_2).f3).length c102_3)).setCell ⟨gb103,4,none⟩ (.slice A102_4 ((vq l0_0 x38_2).f4).length c102_4)) = w47 at n0_ n1_ n2_ ⊢
                   have BK101 := n0_
                   have BK103 := n1_
                   have HB := n2_
                   clear n0_ n1_ n2_
                   have p105 : 0 ≤ ((ji27) : Int) := of_decide_eq_true (by assumption)
                   have q105 : (ji27) < (l0_0.length : Int) := of_decide_eq_true (by assumption)
                   obtain ⟨ad105,A105_1,c105_1,A105_2,c105_2,A105_3,c105_3,A105_4,c105_4,e105,hx105_0,hx105_1,hx105_2,hx105_3,hx105_4,hl105_1,hi105_1,hl105_2,hi105_2,hl105_3,hi105_3,hl105_4,hi105_4⟩ := at_T77 HR0_0.out (ji27) p105 q105
                   have hw105_4 := hx105_4
                   have hw105_3 := hx105_3
                   have hw105_2 := hx105_2
                   have hw105_1 := hx105_1
                   have hw105_0 := hx105_0
                   obtain rfl : ad102 = ad105 := (by injection e105)
                   replace hx105_0 := (HB.out.cell (World.block_lt_of_cell? w _ hx105_0)).trans hx105_0
                   replace hx105_1 := (HB.out.cell (World.block_lt_of_cell? w _ hx105_1)).trans hx105_1
                   replace hx105_2 := (HB.out.cell (World.block_lt_of_cell? w _ hx105_2)).trans hx105_2
                   replace hx105_3 := (HB.out.cell (World.block_lt_of_cell? w _ hx105_3)).trans hx105_3
                   replace hx105_4 := (HB.out.cell (World.block_lt_of_cell? w _ hx105_4)).trans hx105_4
                   have HR105_1 := qq.mk hi105_1
                   have HC105_1 := qq.mk hl105_1
                   clear hi105_1 hl105_1
                   have HR105_2 := qq.mk hi105_2
                   have HC105_2 := qq.mk hl105_2
                   clear hi105_2 hl105_2
                   have HR105_3 := qq.mk hi105_3
                   have HC105_3 := qq.mk hl105_3
                   clear hi105_3 hl105_3
                   have HR105_4 := qq.mk hi105_4
                   have HC105_4 := qq.mk hl105_4
                   clear hi105_4 hl105_4
                   replace p105 := eq_true p105
                   replace q105 := eq_true q105
                   have hS_ := (show (fun w' => w'.cell? ⟨gb103,0,none⟩ = some (.string ((vq l0_0 x38_2).f0)) ∧ w'.cell? ⟨gb103,1,none⟩ = some (.slice A102_1 ((vq l0_0 x38_2).f1).length c102_1) ∧ w'.cell? ⟨gb103,2,none⟩ = some (.slice A102_2 ((vq l0_0 x38_2).f2).length c102_2) ∧ w'.cell? ⟨gb103,3,none⟩ = some (.slice A102_3 ((vq l0_0 x38_2).f3).length c102_3) ∧ w'.cell? ⟨gb103,4,none⟩ = some (.slice A102_4 ((vq l0_0 x38_2).f4).length c102_4) ∧ w'.cell? ⟨gb101,0,none⟩ = some (.slice (some ad102) l0_0.length c0_0) ∧ w'.cell? ⟨gb101,1,none⟩ = some (.slice A0_1 l0_1.length c0_1) ∧ w'.cell? ⟨gb101,2,none⟩ = some (.int .i64 a0_2) ∧ w'.cell? ⟨gb101,3,none⟩ = some (.int .i64 a0_3) ∧ w'.cell? (ad102.add (((ji27)).toNat * 5)) = some (.string ((vq l0_0 (ji27)).f0)) ∧ w'.cell? ⟨(ad102.add (((ji27)).toNat * 5)).block,(ad102.add (((ji27)).toNat * 5)).off + 1,none⟩ = some (.slice A105_1 ((vq l0_0 (ji27)).f1).length c105_1) ∧ w'.cell? ⟨(ad102.add (((ji27)).toNat * 5)).block,(ad102.add (((ji27)).toNat * 5)).off + 2,none⟩ = some (.slice A105_2 ((vq l0_0 (ji27)).f2).length c105_2) ∧ w'.cell? ⟨(ad102.add (((ji27)).toNat * 5)).block,(ad102.add (((ji27)).toNat * 5)).off + 3,none⟩ = some (.slice A105_3 ((vq l0_0 (ji27)).f3).length c105_3) ∧ w'.cell? ⟨(ad102.add (((ji27)).toNat * 5)).block,(ad102.add (((ji27)).toNat * 5)).off + 4,none⟩ = some (.slice A105_4 ((vq l0_0 (ji27)).f4).length c105_4)) (w47) from ⟨(qw BK103.out 0).trans rfl,(qw BK103.out 1).trans rfl,(qw BK103.out 2).trans rfl,(qw BK103.out 3).trans rfl,(qw BK103.out 4).trans rfl,(qw BK101.out 0).trans rfl,(qw BK101.out 1).trans rfl,(qw BK101.out 2).trans rfl,(qw BK101.out 3).trans rfl,((HB.out.cell (World.block_lt_of_cell? w _ hw105_0)).trans hw105_0),((HB.out.cell (World.block_lt_of_cell? w _ hw105_1)).trans hw105_1),((HB.out.cell (World.block_lt_of_cell? w _ hw105_2)).trans hw105_2),((HB.out.cell (World.block_lt_of_cell? w _ hw105_3)).trans hw105_3),((HB.out.cell (World.block_lt_of_cell? w _ hw105_4)).trans hw105_4)⟩)
                   obtain ⟨hS0_,hS1_,hS2_,hS3_,hS4_,hS5_,hS6_,hS7_,hS8_,hS9_,hS10_,hS11_,hS12_,hS13_⟩ := hS_
                   go_quiet ((first | (go_at_call 40;exact Calls.quiet_of ((wv.calls k2 ((vq l0_0 x38_2).f0) true _ A24.out).mono fun _ _ h => ⟨h.1,h.2.out⟩)) | (go_at_call 47;exact Calls.quiet_of ((wk.calls k2 _ _ ((vq l0_0 x38_2).f3) true _ (by repeat (first | exact (Kd.C_below HR102_3.out (by repeat (first | (with_reducible first | exact HB.out | apply qj | apply qz | apply qk | refine qx ?_ GE101.out | refine qx ?_ GE103.out) | exact HB.out))) | (with_reducible refine Kd.C_alloc ?_ _) | (with_reducible refine Kd.C_drewN ?_ _) | (with_reducible refine Kd.C_drew ?_))) (by exact HC102_3.out) A45.out).mono fun _ _ h => ⟨h.1,h.2.out⟩))))
                   clear hS0_ hS1_ hS2_ hS3_ hS4_ hS5_ hS6_ hS7_ hS8_ hS9_ hS10_ hS11_ hS12_ hS13_
                   have n0_ := qq.mk (zz BK101.out nq)
                   have n1_ := qq.mk (zz BK103.out nq)
                   have n2_ := qq.mk (qz HB.out nq)
                   clear BK101
                   clear BK103
                   clear HB
                   have BK101 := n0_
                   have BK103 := n1_
                   have HB := n2_
                   clear n0_ n1_ n2_
                   replace hx105_0 : (World.drewN w47 nq).cell? _ = _ := hx105_0
                   replace hx105_1 : (World.drewN w47 nq).cell? _ = _ := hx105_1
                   replace hx105_2 : (World.drewN w47 nq).cell? _ = _ := hx105_2
                   replace hx105_3 : (World.drewN w47 nq).cell? _ = _ := hx105_3
                   replace hx105_4 : (World.drewN w47 nq).cell? _ = _ := hx105_4
                   generalize World.drewN w47 nq = w48 at BK101 BK103 HB HR105_1 HR105_2 HR105_3 HR105_4 hx105_0 hx105_1 hx105_2 hx105_3 hx105_4 ⊢
                   try go_wp2
                   go_meet
                   case rel => exact ⟨_,(decide ((((vq l0_0 x38_2).f4).length : Int) > 4)),(by first | rfl | (simp;done) | (simp [*];done)),H',⟨by have := HJ1.out;have := HK2.out;first | omega | exact Nat.le_refl _⟩,⟨by (with_reducible repeat (first | refine zz ?_ _ | refine zj ?_ | refine zq ?_ _));exact BK101.out⟩,⟨by (with_reducible repeat (first | refine zz ?_ _ | refine zj ?_ | refine zq ?_ _));exact BK103.out⟩,⟨by repeat (first | (with_reducible first | exact HB.out | apply qj | apply qz | apply qk | refine qx ?_ GE101.out | refine qx ?_ GE103.out) | exact HB.out)⟩⟩
                  ·replace c46 := Bool.eq_false_iff.mpr c46
                   subst c46
                   have H1 : (vv.j2 k2 l0_0 (l0_0.length : Int) x38_2 true l0_0 l0_1 a0_2 a0_3 ((vq l0_0 x38_2).f0) ((vq l0_0 x38_2).f1) ((vq l0_0 x38_2).f2) ((vq l0_0 x38_2).f3) ((vq l0_0 x38_2).f4)) = some r := by rw [if_neg (show ¬ (false = true) by decide)] at H;exact H
                   clear H
                   have H := H1
                   clear H1
                   have H' := qq.mk H
                   clear H
                   try go_wp2
                   have n0_ : qq ((((((w21.setCell ⟨gb103,0,none⟩ (.string ((vq l0_0 x38_2).f0))).setCell ⟨gb103,1,none⟩ (.slice A102_1 ((vq l0_0 x38_2).f1).length c102_1)).setCell ⟨gb103,2,none⟩ (.slice A102_2 ((vq l0_0 x38_2).f2).length c102_2)).setCell ⟨gb103,3,none⟩ (.slice A102_3 ((vq l0_0 x38_2).f3).length c102_3)).setCell ⟨gb103,4,none⟩ (.slice A102_4 ((vq l0_0 x38_2).f4).length c102_4)).heap[gb101]? = some (.cells #[.slice (some ad102) l0_0.length c0_0,.slice A0_1 l0_1.length c0_1,.int .i64 a0_2,.int .i64 a0_3] 45 (0,0))) := ⟨by (with_reducible repeat (first | refine zz ?_ _ | refine zj ?_ | refine zq ?_ _));refine blk_far ?_ NB101_103.out _;(with_reducible repeat (first | refine zz ?_ _ | refine zj ?_ | refine zq ?_ _));refine blk_far ?_ NB101_103.out _;(with_reducible repeat (first | refine zz ?_ _ | refine zj ?_ | refine zq ?_ _));refine blk_far ?_ NB101_103.out _;(with_reducible repeat (first | refine zz ?_ _ | refine zj ?_ | refine zq ?_ _));refine blk_far ?_ NB101_103.out _;(with_reducible repeat (first | refine zz ?_ _ | refine zj ?_ | refine zq ?_ _));refine blk_far ?_ NB101_103.out _;(with_reducible repeat (first | refine zz ?_ _ | refine zj ?_ | refine zq ?_ _));exact BK101.out⟩
                   have n1_ : qq ((((((w21.setCell ⟨gb103,0,none⟩ (.string ((vq l0_0 x38_2).f0))).setCell ⟨gb103,1,none⟩ (.slice A102_1 ((vq l0_0 x38_2).f1).length c102_1)).setCell ⟨gb103,2,none⟩ (.slice A102_2 ((vq l0_0 x38_2).f2).length c102_2)).setCell ⟨gb103,3,none⟩ (.slice A102_3 ((vq l0_0 x38_2).f3).length c102_3)).setCell ⟨gb103,4,none⟩ (.slice A102_4 ((vq l0_0 x38_2).f4).length c102_4)).heap[gb103]? = some (.cells #[.string ((vq l0_0 x38_2).f0),.slice A102_1 ((vq l0_0 x38_2).f1).length c102_1,.slice A102_2 ((vq l0_0 x38_2).f2).length c102_2,.slice A102_3 ((vq l0_0 x38_2).f3).length c102_3,.slice A102_4 ((vq l0_0 x38_2).f4).length c102_4] 77 (0,0))) := ⟨by (with_reducible repeat (first | refine zz ?_ _ | refine zj ?_ | refine zq ?_ _));refine blk_put (cs := #[.string ((vq l0_0 x38_2).f0),.slice A102_1 ((vq l0_0 x38_2).f1).length c102_1,.slice A102_2 ((vq l0_0 x38_2).f2).length c102_2,.slice A102_3 ((vq l0_0 x38_2).f3).length c102_3,.slice none 0 0]) ?_ 4 _ rfl;(with_reducible repeat (first | refine zz ?_ _ | refine zj ?_ | refine zq ?_ _));refine blk_put (cs := #[.string ((vq l0_0 x38_2).f0),.slice A102_1 ((vq l0_0 x38_2).f1).length c102_1,.slice A102_2 ((vq l0_0 x38_2).f2).length c102_2,.slice none 0 0,.slice none 0 0]) ?_ 3 _ rfl;(with_reducible repeat (first | refine zz ?_ _ | refine zj ?_ | refine zq ?_ _));refine blk_put (cs := #[.string ((vq l0_0 x38_2).f0),.slice A102_1 ((vq l0_0 x38_2).f1).length c102_1,.slice none 0 0,.slice none 0 0,.slice none 0 0]) ?_ 2 _ rfl;(with_reducible repeat (first | refine zz ?_ _ | refine zj ?_ | refine zq ?_ _));refine blk_put (cs := #[.string ((vq l0_0 x38_2).f0),.slice none 0 0,.slice none 0 0,.slice none 0 0,.slice none 0 0]) ?_ 1 _ rfl;(with_reducible repeat (first | refine zz ?_ _ | refine zj ?_ | refine zq ?_ _));refine blk_put (cs := #[.string (⟨#[]⟩ : ByteArray),.slice none 0 0,.slice none 0 0,.slice none 0 0,.slice none 0 0]) ?_ 0 _ rfl;(with_reducible repeat (first | refine zz ?_ _ | refine zj ?_ | refine zq ?_ _));exact BK103.out⟩
                   have n2_ : qq (Below w.heap.size w (((((w21.setCell ⟨gb103,0,none⟩ (.string ((vq l0_0 x38_2).f0))).setCell ⟨gb103,1,none⟩ (.slice A102_1 ((vq l0_0 x38_2).f1).length c102_1)).setCell ⟨gb103,2,none⟩ (.slice A102_2 ((vq l0_0 x38_2).f2).length c102_2)).setCell ⟨gb103,3,none⟩ (.slice A102_3 ((vq l0_0 x38_2).f3).length c102_3)).setCell ⟨gb103,4,none⟩ (.slice A102_4 ((vq l0_0 x38_2).f4).length c102_4))) := ⟨by repeat (first | (with_reducible first | exact HB.out | apply qj | apply qz | apply qk | refine qx ?_ GE101.out | refine qx ?_ GE103.out) | exact HB.out)⟩
                   (try clear BK101)
                   (try clear BK103)
                   (try clear HB)
                   generalize (((((w21.setCell ⟨gb103,0,none⟩ (.string ((vq l0_0 x38_2).f0))).setCell ⟨gb103,1,none⟩ (.slice A102_1 ((vq l0_0 x38_2).f1).length c102_1)).setCell ⟨gb103,2,none⟩ (.slice A102_2 ((vq l0_0 x38_2).f2).length c102_2)).setCell ⟨gb103,3,none⟩ (.slice A102_3 ((vq l0_0 x38_2).f3).length c102_3)).setCell ⟨gb103,4,none⟩ (.slice A102_4 ((vq l0_0 x38_2).f4).length c102_4)) = w49 at n0_ n1_ n2_ ⊢
                   have BK101 := n0_
                   have BK103 := n1_
                   have HB := n2_
                   clear n0_ n1_ n2_
                   have p105 : 0 ≤ ((ji27) : Int) := of_decide_eq_true (by assumption)
                   have q105 : (ji27) < (l0_0.length : Int) := of_decide_eq_true (by assumption)
                   obtain ⟨ad105,A105_1,c105_1,A105_2,c105_2,A105_3,c105_3,A105_4,c105_4,e105,hx105_0,hx105_1,hx105_2,hx105_3,hx105_4,hl105_1,hi105_1,hl105_2,hi105_2,hl105_3,hi105_3,hl105_4,hi105_4⟩ := at_T77 HR0_0.out (ji27) p105 q105
                   have hw105_4 := hx105_4
                   have hw105_3 := hx105_3
                   have hw105_2 := hx105_2
                   have hw105_1 := hx105_1
                   have hw105_0 := hx105_0
                   obtain rfl : ad102 = ad105 := (by injection e105)
                   replace hx105_0 := (HB.out.cell (World.block_lt_of_cell? w _ hx105_0)).trans hx105_0
                   replace hx105_1 := (HB.out.cell (World.block_lt_of_cell? w _ hx105_1)).trans hx105_1
                   replace hx105_2 := (HB.out.cell (World.block_lt_of_cell? w _ hx105_2)).trans hx105_2
                   replace hx105_3 := (HB.out.cell (World.block_lt_of_cell? w _ hx105_3)).trans hx105_3
                   replace hx105_4 := (HB.out.cell (World.block_lt_of_cell? w _ hx105_4)).trans hx105_4
                   have HR105_1 := qq.mk hi105_1
                   have HC105_1 := qq.mk hl105_1
                   clear hi105_1 hl105_1
                   have HR105_2 := qq.mk hi105_2
                   have HC105_2 := qq.mk hl105_2
                   clear hi105_2 hl105_2
                   have HR105_3 := qq.mk hi105_3
                   have HC105_3 := qq.mk hl105_3
                   clear hi105_3 hl105_3
                   have HR105_4 := qq.mk hi105_4
                   have HC105_4 := qq.mk hl105_4
                   clear hi105_4 hl105_4
                   replace p105 := eq_true p105
                   replace q105 := eq_true q105
                   have hS_ := (show (fun w' => w'.cell? ⟨gb103,0,none⟩ = some (.string ((vq l0_0 x38_2).f0)) ∧ w'.cell? ⟨gb103,1,none⟩ = some (.slice A102_1 ((vq l0_0 x38_2).f1).length c102_1) ∧ w'.cell? ⟨gb103,2,none⟩ = some (.slice A102_2 ((vq l0_0 x38_2).f2).length c102_2) ∧ w'.cell? ⟨gb103,3,none⟩ = some (.slice A102_3 ((vq l0_0 x38_2).f3).length c102_3) ∧ w'.cell? ⟨gb103,4,none⟩ = some (.slice A102_4 ((vq l0_0 x38_2).f4).length c102_4) ∧ w'.cell? ⟨gb101,0,none⟩ = some (.slice (some ad102) l0_0.length c0_0) ∧ w'.cell? ⟨gb101,1,none⟩ = some (.slice A0_1 l0_1.length c0_1) ∧ w'.cell? ⟨gb101,2,none⟩ = some (.int .i64 a0_2) ∧ w'.cell? ⟨gb101,3,none⟩ = some (.int .i64 a0_3) ∧ w'.cell? (ad102.add (((ji27)).toNat * 5)) = some (.string ((vq l0_0 (ji27)).f0)) ∧ w'.cell? ⟨(ad102.add (((ji27)).toNat * 5)).block,(ad102.add (((ji27)).toNat * 5)).off + 1,none⟩ = some (.slice A105_1 ((vq l0_0 (ji27)).f1).length c105_1) ∧ w'.cell? ⟨(ad102.add (((ji27)).toNat * 5)).block,(ad102.add (((ji27)).toNat * 5)).off + 2,none⟩ = some (.slice A105_2 ((vq l0_0 (ji27)).f2).length c105_2) ∧ w'.cell? ⟨(ad102.add (((ji27)).toNat * 5)).block,(ad102.add (((ji27)).toNat * 5)).off + 3,none⟩ = some (.slice A105_3 ((vq l0_0 (ji27)).f3).length c105_3) ∧ w'.cell? ⟨(ad102.add (((ji27)).toNat * 5)).block,(ad102.add (((ji27)).toNat * 5)).off + 4,none⟩ = some (.slice A105_4 ((vq l0_0 (ji27)).f4).length c105_4)) (w49) from ⟨(qw BK103.out 0).trans rfl,(qw BK103.out 1).trans rfl,(qw BK103.out 2).trans rfl,(qw BK103.out 3).trans rfl,(qw BK103.out 4).trans rfl,(qw BK101.out 0).trans rfl,(qw BK101.out 1).trans rfl,(qw BK101.out 2).trans rfl,(qw BK101.out 3).trans rfl,((HB.out.cell (World.block_lt_of_cell? w _ hw105_0)).trans hw105_0),((HB.out.cell (World.block_lt_of_cell? w _ hw105_1)).trans hw105_1),((HB.out.cell (World.block_lt_of_cell? w _ hw105_2)).trans hw105_2),((HB.out.cell (World.block_lt_of_cell? w _ hw105_3)).trans hw105_3),((HB.out.cell (World.block_lt_of_cell? w _ hw105_4)).trans hw105_4)⟩)
                   obtain ⟨hS0_,hS1_,hS2_,hS3_,hS4_,hS5_,hS6_,hS7_,hS8_,hS9_,hS10_,hS11_,hS12_,hS13_⟩ := hS_
                   go_quiet ((first | (go_at_call 40;exact Calls.quiet_of ((wv.calls k2 ((vq l0_0 x38_2).f0) true _ A24.out).mono fun _ _ h => ⟨h.1,h.2.out⟩)) | (go_at_call 47;exact Calls.quiet_of ((wk.calls k2 _ _ ((vq l0_0 x38_2).f3) false _ (by repeat (first | exact (Kd.C_below HR102_3.out (by repeat (first | (with_reducible first | exact HB.out | apply qj | apply qz | apply qk | refine qx ?_ GE101.out | refine qx ?_ GE103.out) | exact HB.out))) | (with_reducible refine Kd.C_alloc ?_ _) | (with_reducible refine Kd.C_drewN ?_ _) | (with_reducible refine Kd.C_drew ?_))) (by exact HC102_3.out) A45.out).mono fun _ _ h => ⟨h.1,h.2.out⟩))))
                   clear hS0_ hS1_ hS2_ hS3_ hS4_ hS5_ hS6_ hS7_ hS8_ hS9_ hS10_ hS11_ hS12_ hS13_
                   have n0_ := qq.mk (zz BK101.out nq)
                   have n1_ := qq.mk (zz BK103.out nq)
                   have n2_ := qq.mk (qz HB.out nq)
                   clear BK101
                   clear BK103
                   clear HB
                   have BK101 := n0_
                   have BK103 := n1_
                   have HB := n2_
                   clear n0_ n1_ n2_
                   replace hx105_0 : (World.drewN w49 nq).cell? _ = _ := hx105_0
                   replace hx105_1 : (World.drewN w49 nq).cell? _ = _ := hx105_1
                   replace hx105_2 : (World.drewN w49 nq).cell? _ = _ := hx105_2
                   replace hx105_3 : (World.drewN w49 nq).cell? _ = _ := hx105_3
                   replace hx105_4 : (World.drewN w49 nq).cell? _ = _ := hx105_4
                   generalize World.drewN w49 nq = w50 at BK101 BK103 HB HR105_1 HR105_2 HR105_3 HR105_4 hx105_0 hx105_1 hx105_2 hx105_3 hx105_4 ⊢
                   try go_wp2
                   go_meet
                   case rel => exact ⟨_,(true),(by first | rfl | (simp;done) | (simp [*];done)),H',⟨by have := HJ1.out;have := HK2.out;first | omega | exact Nat.le_refl _⟩,⟨by (with_reducible repeat (first | refine zz ?_ _ | refine zj ?_ | refine zq ?_ _));exact BK101.out⟩,⟨by (with_reducible repeat (first | refine zz ?_ _ | refine zj ?_ | refine zq ?_ _));exact BK103.out⟩,⟨by repeat (first | (with_reducible first | exact HB.out | apply qj | apply qz | apply qk | refine qx ?_ GE101.out | refine qx ?_ GE103.out) | exact HB.out)⟩⟩
                ·rw [if_neg c41] at H
                 have c41b0 : ((((vq l0_0 x38_2).f1).length : Int) == 16) = false := beq_eq_false_iff_ne.mpr c41
                 have c41b1 : ((((vq l0_0 x38_2).f1).length : Int) != 16) = true := bne_iff_ne.mpr c41
                 have H' := qq.mk H
                 clear H
                 try go_wp2
                 have n0_ : qq ((((((w21.setCell ⟨gb103,0,none⟩ (.string ((vq l0_0 x38_2).f0))).setCell ⟨gb103,1,none⟩ (.slice A102_1 ((vq l0_0 x38_2).f1).length c102_1)).setCell ⟨gb103,2,none⟩ (.slice A102_2 ((vq l0_0 x38_2).f2).length c102_2)).setCell ⟨gb103,3,none⟩ (.slice A102_3 ((vq l0_0 x38_2).f3).length c102_3)).setCell ⟨gb103,4,none⟩ (.slice A102_4 ((vq l0_0 x38_2).f4).length c102_4)).heap[gb101]? = some (.cells #[.slice (some ad102) l0_0.length c0_0,.slice A0_1 l0_1.length c0_1,.int .i64 a0_2,.int .i64 a0_3] 45 (0,0))) := ⟨by (with_reducible repeat (first | refine zz ?_ _ | refine zj ?_ | refine zq ?_ _));refine blk_far ?_ NB101_103.out _;(with_reducible repeat (first | refine zz ?_ _ | refine zj ?_ | refine zq ?_ _));refine blk_far ?_ NB101_103.out _;(with_reducible repeat (first | refine zz ?_ _ | refine zj ?_ | refine zq ?_ _));refine blk_far ?_ NB101_103.out _;(with_reducible repeat (first | refine zz ?_ _ | refine zj ?_ | refine zq ?_ _));refine blk_far ?_ NB101_103.out _;(with_reducible repeat (first | refine zz ?_ _ | refine zj ?_ | refine zq ?_ _));refine blk_far ?_ NB101_103.out _;(with_reducible repeat (first | refine zz ?_ _ | refine zj ?_ | refine zq ?_ _));exact BK101.out⟩
                 have n1_ : qq ((((((w21.setCell ⟨gb103,0,none⟩ (.string ((vq l0_0 x38_2).f0))).setCell ⟨gb103,1,none⟩ (.slice A102_1 ((vq l0_0 x38_2).f1).length c102_1)).setCell ⟨gb103,2,none⟩ (.slice A102_2 ((vq l0_0 x38_2).f2).length c102_2)).setCell ⟨gb103,3,none⟩ (.slice A102_3 ((vq l0_0 x38_2).f3).length c102_3)).setCell ⟨gb103,4,none⟩ (.slice A102_4 ((vq l0_0 x38_2).f4).length c102_4)).heap[gb103]? = some (.cells #[.string ((vq l0_0 x38_2).f0),.slice A102_1 ((vq l0_0 x38_2).f1).length c102_1,.slice A102_2 ((vq l0_0 x38_2).f2).length c102_2,.slice A102_3 ((vq l0_0 x38_2).f3).length c102_3,.slice A102_4 ((vq l0_0 x38_2).f4).length c102_4] 77 (0,0))) := ⟨by (with_reducible repeat (first | refine zz ?_ _ | refine zj ?_ | refine zq ?_ _));refine blk_put (cs := #[.string ((vq l0_0 x38_2).f0),.slice A102_1 ((vq l0_0 x38_2).f1).length c102_1,.slice A102_2 ((vq l0_0 x38_2).f2).length c102_2,.slice A102_3 ((vq l0_0 x38_2).f3).length c102_3,.slice none 0 0]) ?_ 4 _ rfl;(with_reducible repeat (first | refine zz ?_ _ | refine zj ?_ | refine zq ?_ _));refine blk_put (cs := #[.string ((vq l0_0 x38_2).f0),.slice A102_1 ((vq l0_0 x38_2).f1).length c102_1,.slice A102_2 ((vq l0_0 x38_2).f2).length c102_2,.slice none 0 0,.slice none 0 0]) ?_ 3 _ rfl;(with_reducible repeat (first | refine zz ?_ _ | refine zj ?_ | refine zq ?_ _));refine blk_put (cs := #[.string ((vq l0_0 x38_2).f0),.slice A102_1 ((vq l0_0 x38_2).f1).length c102_1,.slice none 0 0,.slice none 0 0,.slice none 0 0]) ?_ 2 _ rfl;(with_reducible repeat (first | refine zz ?_ _ | refine zj ?_ | refine zq ?_ _));refine blk_put (cs := #[.string ((vq l0_0 x38_2).f0),.slice none 0 0,.slice none 0 0,.slice none 0 0,.slice none 0 0]) ?_ 1 _ rfl;(with_reducible repeat (first | refine zz ?_ _ | refine zj ?_ | refine zq ?_ _));refine blk_put (cs := #[.string (⟨#[]⟩ : ByteArray),.slice none 0 0,.slice none 0 0,.slice none 0 0,.slice none 0 0]) ?_ 0 _ rfl;(with_reducible repeat (first | refine zz ?_ _ | refine zj ?_ | refine zq ?_ _));exact BK103.out⟩
                 have n2_ : qq (Below w.heap.size w (((((w21.setCell ⟨gb103,0,none⟩ (.string ((vq l0_0 x38_2).f0))).setCell ⟨gb103,1,none⟩ (.slice A102_1 ((vq l0_0 x38_2).f1).length c102_1)).setCell ⟨gb103,2,none⟩ (.slice A102_2 ((vq l0_0 x38_2).f2).length c102_2)).setCell ⟨gb103,3,none⟩ (.slice A102_3 ((vq l0_0 x38_2).f3).length c102_3)).setCell ⟨gb103,4,none⟩ (.slice A102_4 ((vq l0_0 x38_2).f4).length c102_4))) := ⟨by repeat (first | (with_reducible first | exact HB.out | apply qj | apply qz | apply qk | refine qx ?_ GE101.out | refine qx ?_ GE103.out) | exact HB.out)⟩
                 (try clear BK101)
                 (try clear BK103)
                 (try clear HB)
                 generalize (((((w21.setCell ⟨gb103,0,none⟩ (.string ((vq l0_0 x38_2).f0))).setCell ⟨gb103,1,none⟩ (.slice A102_1 ((vq l0_0 x38_2).f1).length c102_1)).setCell ⟨gb103,2,none⟩ (.slice A102_2 ((vq l0_0 x38_2).f2).length c102_2)).setCell ⟨gb103,3,none⟩ (.slice A102_3 ((vq l0_0 x38_2).f3).length c102_3)).setCell ⟨gb103,4,none⟩ (.slice A102_4 ((vq l0_0 x38_2).f4).length c102_4)) = w51 at n0_ n1_ n2_ ⊢
                 have BK101 := n0_
                 have BK103 := n1_
                 have HB := n2_
                 clear n0_ n1_ n2_
                 have p105 : 0 ≤ ((ji27) : Int) := of_decide_eq_true (by assumption)
                 have q105 : (ji27) < (l0_0.length : Int) := of_decide_eq_true (by assumption)
                 obtain ⟨ad105,A105_1,c105_1,A105_2,c105_2,A105_3,c105_3,A105_4,c105_4,e105,hx105_0,hx105_1,hx105_2,hx105_3,hx105_4,hl105_1,hi105_1,hl105_2,hi105_2,hl105_3,hi105_3,hl105_4,hi105_4⟩ := at_T77 HR0_0.out (ji27) p105 q105
                 have hw105_4 := hx105_4
                 have hw105_3 := hx105_3
                 have hw105_2 := hx105_2
                 have hw105_1 := hx105_1
                 have hw105_0 := hx105_0
                 obtain rfl : ad102 = ad105 := (by injection e105)
                 replace hx105_0 := (HB.out.cell (World.block_lt_of_cell? w _ hx105_0)).trans hx105_0
                 replace hx105_1 := (HB.out.cell (World.block_lt_of_cell? w _ hx105_1)).trans hx105_1
                 replace hx105_2 := (HB.out.cell (World.block_lt_of_cell? w _ hx105_2)).trans hx105_2
                 replace hx105_3 := (HB.out.cell (World.block_lt_of_cell? w _ hx105_3)).trans hx105_3
                 replace hx105_4 := (HB.out.cell (World.block_lt_of_cell? w _ hx105_4)).trans hx105_4
                 have HR105_1 := qq.mk hi105_1
                 have HC105_1 := qq.mk hl105_1
                 clear hi105_1 hl105_1
                 have HR105_2 := qq.mk hi105_2
                 have HC105_2 := qq.mk hl105_2
                 clear hi105_2 hl105_2
                 have HR105_3 := qq.mk hi105_3
                 have HC105_3 := qq.mk hl105_3
                 clear hi105_3 hl105_3
                 have HR105_4 := qq.mk hi105_4
                 have HC105_4 := qq.mk hl105_4
                 clear hi105_4 hl105_4
                 replace p105 := eq_true p105
                 replace q105 := eq_true q105
                 have hS_ := (show (fun w' => w'.cell? ⟨gb103,0,none⟩ = some (.string ((vq l0_0 x38_2).f0)) ∧ w'.cell? ⟨gb103,1,none⟩ = some (.slice A102_1 ((vq l0_0 x38_2).f1).length c102_1) ∧ w'.cell? ⟨gb103,2,none⟩ = some (.slice A102_2 ((vq l0_0 x38_2).f2).length c102_2) ∧ w'.cell? ⟨gb103,3,none⟩ = some (.slice A102_3 ((vq l0_0 x38_2).f3).length c102_3) ∧ w'.cell? ⟨gb103,4,none⟩ = some (.slice A102_4 ((vq l0_0 x38_2).f4).length c102_4) ∧ w'.cell? ⟨gb101,0,none⟩ = some (.slice (some ad102) l0_0.length c0_0) ∧ w'.cell? ⟨gb101,1,none⟩ = some (.slice A0_1 l0_1.length c0_1) ∧ w'.cell? ⟨gb101,2,none⟩ = some (.int .i64 a0_2) ∧ w'.cell? ⟨gb101,3,none⟩ = some (.int .i64 a0_3) ∧ w'.cell? (ad102.add (((ji27)).toNat * 5)) = some (.string ((vq l0_0 (ji27)).f0)) ∧ w'.cell? ⟨(ad102.add (((ji27)).toNat * 5)).block,(ad102.add (((ji27)).toNat * 5)).off + 1,none⟩ = some (.slice A105_1 ((vq l0_0 (ji27)).f1).length c105_1) ∧ w'.cell? ⟨(ad102.add (((ji27)).toNat * 5)).block,(ad102.add (((ji27)).toNat * 5)).off + 2,none⟩ = some (.slice A105_2 ((vq l0_0 (ji27)).f2).length c105_2) ∧ w'.cell? ⟨(ad102.add (((ji27)).toNat * 5)).block,(ad102.add (((ji27)).toNat * 5)).off + 3,none⟩ = some (.slice A105_3 ((vq l0_0 (ji27)).f3).length c105_3) ∧ w'.cell? ⟨(ad102.add (((ji27)).toNat * 5)).block,(ad102.add (((ji27)).toNat * 5)).off + 4,none⟩ = some (.slice A105_4 ((vq l0_0 (ji27)).f4).length c105_4)) (w51) from ⟨(qw BK103.out 0).trans rfl,(qw BK103.out 1).trans rfl,(qw BK103.out 2).trans rfl,(qw BK103.out 3).trans rfl,(qw BK103.out 4).trans rfl,(qw BK101.out 0).trans rfl,(qw BK101.out 1).trans rfl,(qw BK101.out 2).trans rfl,(qw BK101.out 3).trans rfl,((HB.out.cell (World.block_lt_of_cell? w _ hw105_0)).trans hw105_0),((HB.out.cell (World.block_lt_of_cell? w _ hw105_1)).trans hw105_1),((HB.out.cell (World.block_lt_of_cell? w _ hw105_2)).trans hw105_2),((HB.out.cell (World.block_lt_of_cell? w _ hw105_3)).trans hw105_3),((HB.out.cell (World.block_lt_of_cell? w _ hw105_4)).trans hw105_4)⟩)
                 obtain ⟨hS0_,hS1_,hS2_,hS3_,hS4_,hS5_,hS6_,hS7_,hS8_,hS9_,hS10_,hS11_,hS12_,hS13_⟩ := hS_
                 go_quiet ((first | (go_at_call 40;exact Calls.quiet_of ((wv.calls k2 ((vq l0_0 x38_2).f0) true _ A24.out).mono fun _ _ h => ⟨h.1,h.2.out⟩))))
                 clear hS0_ hS1_ hS2_ hS3_ hS4_ hS5_ hS6_ hS7_ hS8_ hS9_ hS10_ hS11_ hS12_ hS13_
                 have n0_ := qq.mk (zz BK101.out nq)
                 have n1_ := qq.mk (zz BK103.out nq)
                 have n2_ := qq.mk (qz HB.out nq)
                 clear BK101
                 clear BK103
                 clear HB
                 have BK101 := n0_
                 have BK103 := n1_
                 have HB := n2_
                 clear n0_ n1_ n2_
                 replace hx105_0 : (World.drewN w51 nq).cell? _ = _ := hx105_0
                 replace hx105_1 : (World.drewN w51 nq).cell? _ = _ := hx105_1
                 replace hx105_2 : (World.drewN w51 nq).cell? _ = _ := hx105_2
                 replace hx105_3 : (World.drewN w51 nq).cell? _ = _ := hx105_3
                 replace hx105_4 : (World.drewN w51 nq).cell? _ = _ := hx105_4
                 generalize World.drewN w51 nq = w52 at BK101 BK103 HB HR105_1 HR105_2 HR105_3 HR105_4 hx105_0 hx105_1 hx105_2 hx105_3 hx105_4 ⊢
                 try go_wp2
                 go_meet
                 case rel => exact ⟨_,(true),(by first | rfl | (simp;done) | (simp [*];done)),H',⟨by have := HJ1.out;have := HK2.out;first | omega | exact Nat.le_refl _⟩,⟨by (with_reducible repeat (first | refine zz ?_ _ | refine zj ?_ | refine zq ?_ _));exact BK101.out⟩,⟨by (with_reducible repeat (first | refine zz ?_ _ | refine zj ?_ | refine zq ?_ _));exact BK103.out⟩,⟨by repeat (first | (with_reducible first | exact HB.out | apply qj | apply qz | apply qk | refine qx ?_ GE101.out | refine qx ?_ GE103.out) | exact HB.out)⟩⟩
              ·rw [if_neg c30] at H
               have c30b0 : (Op.bytesLess (((vq l0_0 (ji27)).f0).toList) (((vq l0_0 x38_2).f0).toList)) = false := by simpa using c30
               clear c30
               have H' := qq.mk H
               clear H
               try go_wp2
               have n0_ : qq ((((((w21.setCell ⟨gb103,0,none⟩ (.string ((vq l0_0 x38_2).f0))).setCell ⟨gb103,1,none⟩ (.slice A102_1 ((vq l0_0 x38_2).f1).length c102_1)).setCell ⟨gb103,2,none⟩ (.slice A102_2 ((vq l0_0 x38_2).f2).length c102_2)).setCell ⟨gb103,3,none⟩ (.slice A102_3 ((vq l0_0 x38_2).f3).length c102_3)).setCell ⟨gb103,4,none⟩ (.slice A102_4 ((vq l0_0 x38_2).f4).length c102_4)).heap[gb101]? = some (.cells #[.slice (some ad102) l0_0.length c0_0,.slice A0_1 l0_1.length c0_1,.int .i64 a0_2,.int .i64 a0_3] 45 (0,0))) := ⟨by (with_reducible repeat (first | refine zz ?_ _ | refine zj ?_ | refine zq ?_ _));refine blk_far ?_ NB101_103.out _;(with_reducible repeat (first | refine zz ?_ _ | refine zj ?_ | refine zq ?_ _));refine blk_far ?_ NB101_103.out _;(with_reducible repeat (first | refine zz ?_ _ | refine zj ?_ | refine zq ?_ _));refine blk_far ?_ NB101_103.out _;(with_reducible repeat (first | refine zz ?_ _ | refine zj ?_ | refine zq ?_ _));refine blk_far ?_ NB101_103.out _;(with_reducible repeat (first | refine zz ?_ _ | refine zj ?_ | refine zq ?_ _));refine blk_far ?_ NB101_103.out _;(with_reducible repeat (first | refine zz ?_ _ | refine zj ?_ | refine zq ?_ _));exact BK101.out⟩
               have n1_ : qq ((((((w21.setCell ⟨gb103,0,none⟩ (.string ((vq l0_0 x38_2).f0))).setCell ⟨gb103,1,none⟩ (.slice A102_1 ((vq l0_0 x38_2).f1).length c102_1)).setCell ⟨gb103,2,none⟩ (.slice A102_2 ((vq l0_0 x38_2).f2).length c102_2)).setCell ⟨gb103,3,none⟩ (.slice A102_3 ((vq l0_0 x38_2).f3).length c102_3)).setCell ⟨gb103,4,none⟩ (.slice A102_4 ((vq l0_0 x38_2).f4).length c102_4)).heap[gb103]? = some (.cells #[.string ((vq l0_0 x38_2).f0),.slice A102_1 ((vq l0_0 x38_2).f1).length c102_1,.slice A102_2 ((vq l0_0 x38_2).f2).length c102_2,.slice A102_3 ((vq l0_0 x38_2).f3).length c102_3,.slice A102_4 ((vq l0_0 x38_2).f4).length c102_4] 77 (0,0))) := ⟨by (with_reducible repeat (first | refine zz ?_ _ | refine zj ?_ | refine zq ?_ _));refine blk_put (cs := #[.string ((vq l0_0 x38_2).f0),.slice A102_1 ((vq l0_0 x38_2).f1).length c102_1,.slice A102_2 ((vq l0_0 x38_2).f2).length c102_2,.slice A102_3 ((vq l0_0 x38_2).f3).length c102_3,.slice none 0 0]) ?_ 4 _ rfl;(with_reducible repeat (first | refine zz ?_ _ | refine zj ?_ | refine zq ?_ _));refine blk_put (cs := #[.string ((vq l0_0 x38_2).f0),.slice A102_1 ((vq l0_0 x38_2).f1).length c102_1,.slice A102_2 ((vq l0_0 x38_2).f2).length c102_2,.slice none 0 0,.slice none 0 0]) ?_ 3 _ rfl;(with_reducible repeat (first | refine zz ?_ _ | refine zj ?_ | refine zq ?_ _));refine blk_put (cs := #[.string ((vq l0_0 x38_2).f0),.slice A102_1 ((vq l0_0 x38_2).f1).length c102_1,.slice none 0 0,.slice none 0 0,.slice none 0 0]) ?_ 2 _ rfl;(with_reducible repeat (first | refine zz ?_ _ | refine zj ?_ | refine zq ?_ _));refine blk_put (cs := #[.string ((vq l0_0 x38_2).f0),.slice none 0 0,.slice none 0 0,.slice none 0 0,.slice none 0 0]) ?_ 1 _ rfl;(with_reducible repeat (first | refine zz ?_ _ | refine zj ?_ | refine zq ?_ _));refine blk_put (cs := #[.string (⟨#[]⟩ : ByteArray),.slice none 0 0,.slice none 0 0,.slice none 0 0,.slice none 0 0]) ?_ 0 _ rfl;(with_reducible repeat (first | refine zz ?_ _ | refine zj ?_ | refine zq ?_ _));exact BK103.out⟩
               have n2_ : qq (Below w.heap.size w (((((w21.setCell ⟨gb103,0,none⟩ (.string ((vq l0_0 x38_2).f0))).setCell ⟨gb103,1,none⟩ (.slice A102_1 ((vq l0_0 x38_2).f1).length c102_1)).setCell ⟨gb103,2,none⟩ (.slice A102_2 ((vq l0_0 x38_2).f2).length c102_2)).setCell ⟨gb103,3,none⟩ (.slice A102_3 ((vq l0_0 x38_2).f3).length c102_3)).setCell ⟨gb103,4,none⟩ (.slice A102_4 ((vq l0_0 x38_2).f4).length c102_4))) := ⟨by repeat (first | (with_reducible first | exact HB.out | apply qj | apply qz | apply qk | refine qx ?_ GE101.out | refine qx ?_ GE103.out) | exact HB.out)⟩
               (try clear BK101)
               (try clear BK103)
               (try clear HB)
               generalize (((((w21.setCell ⟨gb103,0,none⟩ (.string ((vq l0_0 x38_2).f0))).setCell ⟨gb103,1,none⟩ (.slice A102_1 ((vq l0_0 x38_2).f1).length c102_1)).setCell ⟨gb103,2,none⟩ (.slice A102_2 ((vq l0_0 x38_2).f2).length c102_2)).setCell ⟨gb103,3,none⟩ (.slice A102_3 ((vq l0_0 x38_2).f3).length c102_3)).setCell ⟨gb103,4,none⟩ (.slice A102_4 ((vq l0_0 x38_2).f4).length c102_4)) = w53 at n0_ n1_ n2_ ⊢
               have BK101 := n0_
               have BK103 := n1_
               have HB := n2_
               clear n0_ n1_ n2_
               have p105 : 0 ≤ ((ji27) : Int) := of_decide_eq_true (by assumption)
               have q105 : (ji27) < (l0_0.length : Int) := of_decide_eq_true (by assumption)
               obtain ⟨ad105,A105_1,c105_1,A105_2,c105_2,A105_3,c105_3,A105_4,c105_4,e105,hx105_0,hx105_1,hx105_2,hx105_3,hx105_4,hl105_1,hi105_1,hl105_2,hi105_2,hl105_3,hi105_3,hl105_4,hi105_4⟩ := at_T77 HR0_0.out (ji27) p105 q105
               have hw105_4 := hx105_4
               have hw105_3 := hx105_3
               have hw105_2 := hx105_2
               have hw105_1 := hx105_1
               have hw105_0 := hx105_0
               obtain rfl : ad102 = ad105 := (by injection e105)
               replace hx105_0 := (HB.out.cell (World.block_lt_of_cell? w _ hx105_0)).trans hx105_0
               replace hx105_1 := (HB.out.cell (World.block_lt_of_cell? w _ hx105_1)).trans hx105_1
               replace hx105_2 := (HB.out.cell (World.block_lt_of_cell? w _ hx105_2)).trans hx105_2
               replace hx105_3 := (HB.out.cell (World.block_lt_of_cell? w _ hx105_3)).trans hx105_3
               replace hx105_4 := (HB.out.cell (World.block_lt_of_cell? w _ hx105_4)).trans hx105_4
               have HR105_1 := qq.mk hi105_1
               have HC105_1 := qq.mk hl105_1
               clear hi105_1 hl105_1
               have HR105_2 := qq.mk hi105_2
               have HC105_2 := qq.mk hl105_2
               clear hi105_2 hl105_2
               have HR105_3 := qq.mk hi105_3
               have HC105_3 := qq.mk hl105_3
               clear hi105_3 hl105_3
               have HR105_4 := qq.mk hi105_4
               have HC105_4 := qq.mk hl105_4
               clear hi105_4 hl105_4
               replace p105 := eq_true p105
               replace q105 := eq_true q105
               have hS_ := (show (fun w' => w'.cell? ⟨gb103,0,none⟩ = some (.string ((vq l0_0 x38_2).f0)) ∧ w'.cell? ⟨gb103,1,none⟩ = some (.slice A102_1 ((vq l0_0 x38_2).f1).length c102_1) ∧ w'.cell? ⟨gb103,2,none⟩ = some (.slice A102_2 ((vq l0_0 x38_2).f2).length c102_2) ∧ w'.cell? ⟨gb103,3,none⟩ = some (.slice A102_3 ((vq l0_0 x38_2).f3).length c102_3) ∧ w'.cell? ⟨gb103,4,none⟩ = some (.slice A102_4 ((vq l0_0 x38_2).f4).length c102_4) ∧ w'.cell? ⟨gb101,0,none⟩ = some (.slice (some ad102) l0_0.length c0_0) ∧ w'.cell? ⟨gb101,1,none⟩ = some (.slice A0_1 l0_1.length c0_1) ∧ w'.cell? ⟨gb101,2,none⟩ = some (.int .i64 a0_2) ∧ w'.cell? ⟨gb101,3,none⟩ = some (.int .i64 a0_3) ∧ w'.cell? (ad102.add (((ji27)).toNat * 5)) = some (.string ((vq l0_0 (ji27)).f0)) ∧ w'.cell? ⟨(ad102.add (((ji27)).toNat * 5)).block,(ad102.add (((ji27)).toNat * 5)).off + 1,none⟩ = some (.slice A105_1 ((vq l0_0 (ji27)).f1).length c105_1) ∧ w'.cell? ⟨(ad102.add (((ji27)).toNat * 5)).block,(ad102.add (((ji27)).toNat * 5)).off + 2,none⟩ = some (.slice A105_2 ((vq l0_0 (ji27)).f2).length c105_2) ∧ w'.cell? ⟨(ad102.add (((ji27)).toNat * 5)).block,(ad102.add (((ji27)).toNat * 5)).off + 3,none⟩ = some (.slice A105_3 ((vq l0_0 (ji27)).f3).length c105_3) ∧ w'.cell? ⟨(ad102.add (((ji27)).toNat * 5)).block,(ad102.add (((ji27)).toNat * 5)).off + 4,none⟩ = some (.slice A105_4 ((vq l0_0 (ji27)).f4).length c105_4)) (w53) from ⟨(qw BK103.out 0).trans rfl,(qw BK103.out 1).trans rfl,(qw BK103.out 2).trans rfl,(qw BK103.out 3).trans rfl,(qw BK103.out 4).trans rfl,(qw BK101.out 0).trans rfl,(qw BK101.out 1).trans rfl,(qw BK101.out 2).trans rfl,(qw BK101.out 3).trans rfl,((HB.out.cell (World.block_lt_of_cell? w _ hw105_0)).trans hw105_0),((HB.out.cell (World.block_lt_of_cell? w _ hw105_1)).trans hw105_1),((HB.out.cell (World.block_lt_of_cell? w _ hw105_2)).trans hw105_2),((HB.out.cell (World.block_lt_of_cell? w _ hw105_3)).trans hw105_3),((HB.out.cell (World.block_lt_of_cell? w _ hw105_4)).trans hw105_4)⟩)
               obtain ⟨hS0_,hS1_,hS2_,hS3_,hS4_,hS5_,hS6_,hS7_,hS8_,hS9_,hS10_,hS11_,hS12_,hS13_⟩ := hS_
               go_quiet ((first | (go_at_call 40;exact Calls.quiet_of ((wv.calls k2 ((vq l0_0 x38_2).f0) true _ A24.out).mono fun _ _ h => ⟨h.1,h.2.out⟩))))
               clear hS0_ hS1_ hS2_ hS3_ hS4_ hS5_ hS6_ hS7_ hS8_ hS9_ hS10_ hS11_ hS12_ hS13_
               have n0_ := qq.mk (zz BK101.out nq)
               have n1_ := qq.mk (zz BK103.out nq)
               have n2_ := qq.mk (qz HB.out nq)
               clear BK101
               clear BK103
               clear HB
               have BK101 := n0_
               have BK103 := n1_
               have HB := n2_
               clear n0_ n1_ n2_
               replace hx105_0 : (World.drewN w53 nq).cell? _ = _ := hx105_0
               replace hx105_1 : (World.drewN w53 nq).cell? _ = _ := hx105_1
               replace hx105_2 : (World.drewN w53 nq).cell? _ = _ := hx105_2
               replace hx105_3 : (World.drewN w53 nq).cell? _ = _ := hx105_3
               replace hx105_4 : (World.drewN w53 nq).cell? _ = _ := hx105_4
               generalize World.drewN w53 nq = w54 at BK101 BK103 HB HR105_1 HR105_2 HR105_3 HR105_4 hx105_0 hx105_1 hx105_2 hx105_3 hx105_4 ⊢
               try go_wp2
               go_meet
               case rel => exact ⟨_,(true),(by first | rfl | (simp;done) | (simp [*];done)),H',⟨by have := HJ1.out;have := HK2.out;first | omega | exact Nat.le_refl _⟩,⟨by (with_reducible repeat (first | refine zz ?_ _ | refine zj ?_ | refine zq ?_ _));exact BK101.out⟩,⟨by (with_reducible repeat (first | refine zz ?_ _ | refine zj ?_ | refine zq ?_ _));exact BK103.out⟩,⟨by repeat (first | (with_reducible first | exact HB.out | apply qj | apply qz | apply qk | refine qx ?_ GE101.out | refine qx ?_ GE103.out) | exact HB.out)⟩⟩
             ·rw [if_neg c29] at H
              exact absurd H (by simp)
            ·rw [if_neg c28] at H
             exact absurd H (by simp)
           ·rw [if_neg c26] at H
            have c26b0 : decide (0 < x38_2) = false := decide_eq_false c26
            clear c26
            (first | rw [c26b0] | (simp only [i64_w,i32_w];rw [c26b0]) | skip)
            by_cases c55 : (((vq l0_0 x38_2).f1).length : Int) = 0
            ·rw [if_pos c55] at H
             have c55b0 : ((((vq l0_0 x38_2).f1).length : Int) == 0) = true := beq_iff_eq.mpr c55
             have c55b1 : ((((vq l0_0 x38_2).f1).length : Int) != 0) = false := bne_eq_false_iff_eq.mpr c55
             clear c55
             by_cases c56 : (((vq l0_0 x38_2).f2).length : Int) > 5
             ·rw [if_pos c56] at H
              have c56b0 : decide (5 < (((vq l0_0 x38_2).f2).length : Int)) = true := decide_eq_true c56
              have c56b1 : decide (5 < ((vq l0_0 x38_2).f2).length) = true := decide_eq_true (by omega)
              clear c56
              have H' := qq.mk H
              clear H
              try go_wp2
              have n0_ : qq ((((((w21.setCell ⟨gb103,0,none⟩ (.string ((vq l0_0 x38_2).f0))).setCell ⟨gb103,1,none⟩ (.slice A102_1 ((vq l0_0 x38_2).f1).length c102_1)).setCell ⟨gb103,2,none⟩ (.slice A102_2 ((vq l0_0 x38_2).f2).length c102_2)).setCell ⟨gb103,3,none⟩ (.slice A102_3 ((vq l0_0 x38_2).f3).length c102_3)).setCell ⟨gb103,4,none⟩ (.slice A102_4 ((vq l0_0 x38_2).f4).length c102_4)).heap[gb101]? = some (.cells #[.slice (some ad102) l0_0.length c0_0,.slice A0_1 l0_1.length c0_1,.int .i64 a0_2,.int .i64 a0_3] 45 (0,0))) := ⟨by (with_reducible repeat (first | refine zz ?_ _ | refine zj ?_ | refine zq ?_ _));refine blk_far ?_ NB101_103.out _;(with_reducible repeat (first | refine zz ?_ _ | refine zj ?_ | refine zq ?_ _));refine blk_far ?_ NB101_103.out _;(with_reducible repeat (first | refine zz ?_ _ | refine zj ?_ | refine zq ?_ _));refine blk_far ?_ NB101_103.out _;(with_reducible repeat (first | refine zz ?_ _ | refine zj ?_ | refine zq ?_ _));refine blk_far ?_ NB101_103.out _;(with_reducible repeat (first | refine zz ?_ _ | refine zj ?_ | refine zq ?_ _));refine blk_far ?_ NB101_103.out _;(with_reducible repeat (first | refine zz ?_ _ | refine zj ?_ | refine zq ?_ _));exact BK101.out⟩
              have n1_ : qq ((((((w21.setCell ⟨gb103,0,none⟩ (.string ((vq l0_0 x38_2).f0))).setCell ⟨gb103,1,none⟩ (.slice A102_1 ((vq l0_0 x38_2).f1).length c102_1)).setCell ⟨gb103,2,none⟩ (.slice A102_2 ((vq l0_0 x38_2).f2).length c102_2)).setCell ⟨gb103,3,none⟩ (.slice A102_3 ((vq l0_0 x38_2).f3).length c102_3)).setCell ⟨gb103,4,none⟩ (.slice A102_4 ((vq l0_0 x38_2).f4).length c102_4)).heap[gb103]? = some (.cells #[.string ((vq l0_0 x38_2).f0),.slice A102_1 ((vq l0_0 x38_2).f1).length c102_1,.slice A102_2 ((vq l0_0 x38_2).f2).length c102_2,.slice A102_3 ((vq l0_0 x38_2).f3).length c102_3,.slice A102_4 ((vq l0_0 x38_2).f4).length c102_4] 77 (0,0))) := ⟨by (with_reducible repeat (first | refine zz ?_ _ | refine zj ?_ | refine zq ?_ _));refine blk_put (cs := #[.string ((vq l0_0 x38_2).f0),.slice A102_1 ((vq l0_0 x38_2).f1).length c102_1,.slice A102_2 ((vq l0_0 x38_2).f2).length c102_2,.slice A102_3 ((vq l0_0 x38_2).f3).length c102_3,.slice none 0 0]) ?_ 4 _ rfl;(with_reducible repeat (first | refine zz ?_ _ | refine zj ?_ | refine zq ?_ _));refine blk_put (cs := #[.string ((vq l0_0 x38_2).f0),.slice A102_1 ((vq l0_0 x38_2).f1).length c102_1,.slice A102_2 ((vq l0_0 x38_2).f2).length c102_2,.slice none 0 0,.slice none 0 0]) ?_ 3 _ rfl;(with_reducible repeat (first | refine zz ?_ _ | refine zj ?_ | refine zq ?_ _));refine blk_put (cs := #[.string ((vq l0_0 x38_2).f0),.slice A102_1 ((vq l0_0 x38_2).f1).length c102_1,.slice none 0 0,.slice none 0 0,.slice none 0 0]) ?_ 2 _ rfl;(with_reducible repeat (first | refine zz ?_ _ | refine zj ?_ | refine zq ?_ _));refine blk_put (cs := #[.string ((vq l0_0 x38_2).f0),.slice none 0 0,.slice none 0 0,.slice none 0 0,.slice none 0 0]) ?_ 1 _ rfl;(with_reducible repeat (first | refine zz ?_ _ | refine zj ?_ | refine zq ?_ _));refine blk_put (cs := #[.string (⟨#[]⟩ : ByteArray),.slice none 0 0,.slice none 0 0,.slice none 0 0,.slice none 0 0]) ?_ 0 _ rfl;(with_reducible repeat (first | refine zz ?_ _ | refine zj ?_ | refine zq ?_ _));exact BK103.out⟩
              have n2_ : qq (Below w.heap.size w (((((w21.setCell ⟨gb103,0,none⟩ (.string ((vq l0_0 x38_2).f0))).setCell ⟨gb103,1,none⟩ (.slice A102_1 ((vq l0_0 x38_2).f1).length c102_1)).setCell ⟨gb103,2,none⟩ (.slice A102_2 ((vq l0_0 x38_2).f2).length c102_2)).setCell ⟨gb103,3,none⟩ (.slice A102_3 ((vq l0_0 x38_2).f3).length c102_3)).setCell ⟨gb103,4,none⟩ (.slice A102_4 ((vq l0_0 x38_2).f4).length c102_4))) := ⟨by repeat (first | (with_reducible first | exact HB.out | apply qj | apply qz | apply qk | refine qx ?_ GE101.out | refine qx ?_ GE103.out) | exact HB.out)⟩
              (try clear BK101)
              (try clear BK103)
              (try clear HB)
              generalize (((((w21.setCell ⟨gb103,0,none⟩ (.string ((vq l0_0 x38_2).f0))).setCell ⟨gb103,1,none⟩ (.slice A102_1 ((vq l0_0 x38_2).f1).length c102_1)).setCell ⟨gb103,2,none⟩ (.slice A102_2 ((vq l0_0 x38_2).f2).length c102_2)).setCell ⟨gb103,3,none⟩ (.slice A102_3 ((vq l0_0 x38_2).f3).length c102_3)).setCell ⟨gb103,4,none⟩ (.slice A102_4 ((vq l0_0 x38_2).f4).length c102_4)) = w57 at n0_ n1_ n2_ ⊢
              have BK101 := n0_
              have BK103 := n1_
              have HB := n2_
              clear n0_ n1_ n2_
              have hS_ := (show (fun w' => w'.cell? ⟨gb103,0,none⟩ = some (.string ((vq l0_0 x38_2).f0)) ∧ w'.cell? ⟨gb103,1,none⟩ = some (.slice A102_1 ((vq l0_0 x38_2).f1).length c102_1) ∧ w'.cell? ⟨gb103,2,none⟩ = some (.slice A102_2 ((vq l0_0 x38_2).f2).length c102_2) ∧ w'.cell? ⟨gb103,3,none⟩ = some (.slice A102_3 ((vq l0_0 x38_2).f3).length c102_3) ∧ w'.cell? ⟨gb103,4,none⟩ = some (.slice A102_4 ((vq l0_0 x38_2).f4).length c102_4)) (w57) from ⟨(qw BK103.out 0).trans rfl,(qw BK103.out 1).trans rfl,(qw BK103.out 2).trans rfl,(qw BK103.out 3).trans rfl,(qw BK103.out 4).trans rfl⟩)
              obtain ⟨hS0_,hS1_,hS2_,hS3_,hS4_⟩ := hS_
              go_quiet ((first | (go_at_call 40;exact Calls.quiet_of ((wv.calls k2 ((vq l0_0 x38_2).f0) true _ A24.out).mono fun _ _ h => ⟨h.1,h.2.out⟩))))
              clear hS0_ hS1_ hS2_ hS3_ hS4_
              have n0_ := qq.mk (zz BK101.out nq)
              have n1_ := qq.mk (zz BK103.out nq)
              have n2_ := qq.mk (qz HB.out nq)
              clear BK101
              clear BK103
              clear HB
              have BK101 := n0_
              have BK103 := n1_
              have HB := n2_
              clear n0_ n1_ n2_
              generalize World.drewN w57 nq = w58 at BK101 BK103 HB ⊢
              try go_wp2
              go_meet
              case rel => exact ⟨_,(true),(by first | rfl | (simp;done) | (simp [*];done)),H',⟨by have := HJ1.out;have := HK2.out;first | omega | exact Nat.le_refl _⟩,⟨by (with_reducible repeat (first | refine zz ?_ _ | refine zj ?_ | refine zq ?_ _));exact BK101.out⟩,⟨by (with_reducible repeat (first | refine zz ?_ _ | refine zj ?_ | refine zq ?_ _));exact BK103.out⟩,⟨by repeat (first | (with_reducible first | exact HB.out | apply qj | apply qz | apply qk | refine qx ?_ GE101.out | refine qx ?_ GE103.out) | exact HB.out)⟩⟩
             ·rw [if_neg c56] at H
              have c56b0 : decide (5 < (((vq l0_0 x38_2).f2).length : Int)) = false := decide_eq_false c56
              have c56b1 : decide (5 < ((vq l0_0 x38_2).f2).length) = false := decide_eq_false (by omega)
              clear c56
              replace H := Option.bind_eq_some_iff.mp H
              obtain ⟨t108,A590,H⟩ := H
              replace H : (if t108 = true then (vv.j2 k2 l0_0 (l0_0.length : Int) x38_2 (decide ((((vq l0_0 x38_2).f4).length : Int) > 4)) l0_0 l0_1 a0_2 a0_3 ((vq l0_0 x38_2).f0) ((vq l0_0 x38_2).f1) ((vq l0_0 x38_2).f2) ((vq l0_0 x38_2).f3) ((vq l0_0 x38_2).f4)) else (vv.j2 k2 l0_0 (l0_0.length : Int) x38_2 true l0_0 l0_1 a0_2 a0_3 ((vq l0_0 x38_2).f0) ((vq l0_0 x38_2).f1) ((vq l0_0 x38_2).f2) ((vq l0_0 x38_2).f3) ((vq l0_0 x38_2).f4))) = some r := H
              have A59 := qq.mk A590
              clear A590
              by_cases c60 : t108 = true
              ·subst c60
               have H1 : (vv.j2 k2 l0_0 (l0_0.length : Int) x38_2 (decide ((((vq l0_0 x38_2).f4).length : Int) > 4)) l0_0 l0_1 a0_2 a0_3 ((vq l0_0 x38_2).f0) ((vq l0_0 x38_2).f1) ((vq l0_0 x38_2).f2) ((vq l0_0 x38_2).f3) ((vq l0_0 x38_2).f4)) = some r := by rw [if_pos rfl] at H;exact H
               clear H
               have H := H1
               clear H1
               have H' := qq.mk H
               clear H
               try go_wp2
               have n0_ : qq ((((((w21.setCell ⟨gb103,0,none⟩ (.string ((vq l0_0 x38_2).f0))).setCell ⟨gb103,1,none⟩ (.slice A102_1 ((vq l0_0 x38_2).f1).length c102_1)).setCell ⟨gb103,2,none⟩ (.slice A102_2 ((vq l0_0 x38_2).f2).length c102_2)).setCell ⟨gb103,3,none⟩ (.slice A102_3 ((vq l0_0 x38_2).f3).length c102_3)).setCell ⟨gb103,4,none⟩ (.slice A102_4 ((vq l0_0 x38_2).f4).length c102_4)).heap[gb101]? = some (.cells #[.slice (some ad102) l0_0.length c0_0,.slice A0_1 l0_1.length c0_1,.int .i64 a0_2,.int .i64 a0_3] 45 (0,0))) := ⟨by (with_reducible repeat (first | refine zz ?_ _ | refine zj ?_ | refine zq ?_ _));refine blk_far ?_ NB101_103.out _;(with_reducible repeat (first | refine zz ?_ _ | refine zj ?_ | refine zq ?_ _));refine blk_far ?_ NB101_103.out _;(with_reducible repeat (first | refine zz ?_ _ | refine zj ?_ | refine zq ?_ _));refine blk_far ?_ NB101_103.out _;(with_reducible repeat (first | refine zz ?_ _ | refine zj ?_ | refine zq ?_ _));refine blk_far ?_ NB101_103.out _;(with_reducible repeat (first | refine zz ?_ _ | refine zj ?_ | refine zq ?_ _));refine blk_far ?_ NB101_103.out _;(with_reducible repeat (first | refine zz ?_ _ | refine zj ?_ | refine zq ?_ _));exact BK101.out⟩
               have n1_ : qq ((((((w21.setCell ⟨gb103,0,none⟩ (.string ((vq l0_0 x38_2).f0))).setCell ⟨gb103,1,none⟩ (.slice A102_1 ((vq l0_0 x38_2).f1).length c102_1)).setCell ⟨gb103,2,none⟩ (.slice A102_2 ((vq l0_0 x38_2).f2).length c102_2)).setCell ⟨gb103,3,none⟩ (.slice A102_3 ((vq l0_0 x38_2).f3).length c102_3)).setCell ⟨gb103,4,none⟩ (.slice A102_4 ((vq l0_0 x38_2).f4).length c102_4)).heap[gb103]? = some (.cells #[.string ((vq l0_0 x38_2).f0),.slice A102_1 ((vq l0_0 x38_2).f1).length c102_1,.slice A102_2 ((vq l0_0 x38_2).f2).length c102_2,.slice A102_3 ((vq l0_0 x38_2).f3).length c102_3,.slice A102_4 ((vq l0_0 x38_2).f4).length c102_4] 77 (0,0))) := ⟨by (with_reducible repeat (first | refine zz ?_ _ | refine zj ?_ | refine zq ?_ _));refine blk_put (cs := #[.string ((vq l0_0 x38_2).f0),.slice A102_1 ((vq l0_0 x38_2).f1).length c102_1,.slice A102_2 ((vq l0_0 x38_2).f2).length c102_2,.slice A102_3 ((vq l0_0 x38_2).f3).length c102_3,.slice none 0 0]) ?_ 4 _ rfl;(with_reducible repeat (first | refine zz ?_ _ | refine zj ?_ | refine zq ?_ _));refine blk_put (cs := #[.string ((vq l0_0 x38_2).f0),.slice A102_1 ((vq l0_0 x38_2).f1).length c102_1,.slice A102_2 ((vq l0_0 x38_2).f2).length c102_2,.slice none 0 0,.slice none 0 0]) ?_ 3 _ rfl;(with_reducible repeat (first | refine zz ?_ _ | refine zj ?_ | refine zq ?_ _));refine blk_put (cs := #[.string ((vq l0_0 x38_2).f0),.slice A102_1 ((vq l0_0 x38_2).f1).length c102_1,.slice none 0 0,.slice none 0 0,.slice none 0 0]) ?_ 2 _ rfl;(with_reducible repeat (first | refine zz ?_ _ | refine zj ?_ | refine zq ?_ _));refine blk_put (cs := #[.string ((vq l0_0 x38_2).f0),.slice none 0 0,.slice none 0 0,.slice none 0 0,.slice none 0 0]) ?_ 1 _ rfl;(with_reducible repeat (first | refine zz ?_ _ | refine zj ?_ | refine zq ?_ _));refine blk_put (cs := #[.string (⟨#[]⟩ : ByteArray),.slice none 0 0,.slice none 0 0,.slice none 0 0,.slice none 0 0]) ?_ 0 _ rfl;(with_reducible repeat (first | refine zz ?_ _ | refine zj ?_ | refine zq ?_ _));exact BK103.out⟩
               have n2_ : qq (Below w.heap.size w (((((w21.setCell ⟨gb103,0,none⟩ (.string ((vq l0_0 x38_2).f0))).setCell ⟨gb103,1,none⟩ (.slice A102_1 ((vq l0_0 x38_2).f1).length c102_1)).setCell ⟨gb103,2,none⟩ (.slice A102_2 ((vq l0_0 x38_2).f2).length c102_2)).setCell ⟨gb103,3,none⟩ (.slice A102_3 ((vq l0_0 x38_2).f3).length c102_3)).setCell ⟨gb103,4,none⟩ (.slice A102_4 ((vq l0_0 x38_2).f4).length c102_4))) := ⟨by repeat (first | (with_reducible first | exact HB.out | apply qj | apply qz | apply qk | refine qx ?_ GE101.out | refine qx ?_ GE103.out) | exact HB.out)⟩
               (try clear BK101)
               (try clear BK103)
               (try clear HB)
               generalize (((((w21.setCell ⟨gb103,0,none⟩ (.string ((vq l0_0 x38_2).f0))).setCell ⟨gb103,1,none⟩ (.slice A102_1 ((vq l0_0 x38_2).f1).length c102_1)).setCell ⟨gb103,2,none⟩ (.slice A102_2 ((vq l0_0 x38_2).f2).length c102_2)).setCell ⟨gb103,3,none⟩ (.slice A102_3 ((vq l0_0 x38_2).f3).length c102_3)).setCell ⟨gb103,4,none⟩ (.slice A102_4 ((vq l0_0 x38_2).f4).length c102_4)) = w61 at n0_ n1_ n2_ ⊢
               have BK101 := n0_
               have BK103 := n1_
               have HB := n2_
               clear n0_ n1_ n2_
               have hS_ := (show (fun w' => w'.cell? ⟨gb103,0,none⟩ = some (.string ((vq l0_0 x38_2).f0)) ∧ w'.cell? ⟨gb103,1,none⟩ = some (.slice A102_1 ((vq l0_0 x38_2).f1).length c102_1) ∧ w'.cell? ⟨gb103,2,none⟩ = some (.slice A102_2 ((vq l0_0 x38_2).f2).length c102_2) ∧ w'.cell? ⟨gb103,3,none⟩ = some (.slice A102_3 ((vq l0_0 x38_2).f3).length c102_3) ∧ w'.cell? ⟨gb103,4,none⟩ = some (.slice A102_4 ((vq l0_0 x38_2).f4).length c102_4)) (w61) from ⟨(qw BK103.out 0).trans rfl,(qw BK103.out 1).trans rfl,(qw BK103.out 2).trans rfl,(qw BK103.out 3).trans rfl,(qw BK103.out 4).trans rfl⟩)
               obtain ⟨hS0_,hS1_,hS2_,hS3_,hS4_⟩ := hS_
               go_quiet ((first | (go_at_call 40;exact Calls.quiet_of ((wv.calls k2 ((vq l0_0 x38_2).f0) true _ A24.out).mono fun _ _ h => ⟨h.1,h.2.out⟩)) | (go_at_call 47;exact Calls.quiet_of ((wk.calls k2 _ _ ((vq l0_0 x38_2).f3) true _ (by repeat (first | exact (Kd.C_below HR102_3.out (by repeat (first | (with_reducible first | exact HB.out | apply qj | apply qz | apply qk | refine qx ?_ GE101.out | refine qx ?_ GE103.out) | exact HB.out))) | (with_reducible refine Kd.C_alloc ?_ _) | (with_reducible refine Kd.C_drewN ?_ _) | (with_reducible refine Kd.C_drew ?_))) (by exact HC102_3.out) A59.out).mono fun _ _ h => ⟨h.1,h.2.out⟩))))
               clear hS0_ hS1_ hS2_ hS3_ hS4_
               have n0_ := qq.mk (zz BK101.out nq)
               have n1_ := qq.mk (zz BK103.out nq)
               have n2_ := qq.mk (qz HB.out nq)
               clear BK101
               clear BK103
               clear HB
               have BK101 := n0_
               have BK103 := n1_
               have HB := n2_
               clear n0_ n1_ n2_
               generalize World.drewN w61 nq = w62 at BK101 BK103 HB ⊢
               try go_wp2
               go_meet
               case rel => exact ⟨_,(decide ((((vq l0_0 x38_2).f4).length : Int) > 4)),(by first | rfl | (simp;done) | (simp [*];done)),H',⟨by have := HJ1.out;have := HK2.out;first | omega | exact Nat.le_refl _⟩,⟨by (with_reducible repeat (first | refine zz ?_ _ | refine zj ?_ | refine zq ?_ _));exact BK101.out⟩,⟨by (with_reducible repeat (first | refine zz ?_ _ | refine zj ?_ | refine zq ?_ _));exact BK103.out⟩,⟨by repeat (first | (with_reducible first | exact HB.out | apply qj | apply qz | apply qk | refine qx ?_ GE101.out | refine qx ?_ GE103.out) | exact HB.out)⟩⟩
              ·replace c60 := Bool.eq_false_iff.mpr c60
               subst c60
               have H1 : (vv.j2 k2 l0_0 (l0_0.length : Int) x38_2 true l0_0 l0_1 a0_2 a0_3 ((vq l0_0 x38_2).f0) ((vq l0_0 x38_2).f1) ((vq l0_0 x38_2).f2) ((vq l0_0 x38_2).f3) ((vq l0_0 x38_2).f4)) = some r := by rw [if_neg (show ¬ (false = true) by decide)] at H;exact H
               clear H
               have H := H1
               clear H1
               have H' := qq.mk H
               clear H
               try go_wp2
               have n0_ : qq ((((((w21.setCell ⟨gb103,0,none⟩ (.string ((vq l0_0 x38_2).f0))).setCell ⟨gb103,1,none⟩ (.slice A102_1 ((vq l0_0 x38_2).f1).length c102_1)).setCell ⟨gb103,2,none⟩ (.slice A102_2 ((vq l0_0 x38_2).f2).length c102_2)).setCell ⟨gb103,3,none⟩ (.slice A102_3 ((vq l0_0 x38_2).f3).length c102_3)).setCell ⟨gb103,4,none⟩ (.slice A102_4 ((vq l0_0 x38_2).f4).length c102_4)).heap[gb101]? = some (.cells #[.slice (some ad102) l0_0.length c0_0,.slice A0_1 l0_1.length c0_1,.int .i64 a0_2,.int .i64 a0_3] 45 (0,0))) := ⟨by (with_reducible repeat (first | refine zz ?_ _ | refine zj ?_ | refine zq ?_ _));refine blk_far ?_ NB101_103.out _;(with_reducible repeat (first | refine zz ?_ _ | refine zj ?_ | refine zq ?_ _));refine blk_far ?_ NB101_103.out _;(with_reducible repeat (first | refine zz ?_ _ | refine zj ?_ | refine zq ?_ _));refine blk_far ?_ NB101_103.out _;(with_reducible repeat (first | refine zz ?_ _ | refine zj ?_ | refine zq ?_ _));refine blk_far ?_ NB101_103.out _;(with_reducible repeat (first | refine zz ?_ _ | refine zj ?_ | refine zq ?_ _));refine blk_far ?_ NB101_103.out _;(with_reducible repeat (first | refine zz ?_ _ | refine zj ?_ | refine zq ?_ _));exact BK101.out⟩
               have n1_ : qq ((((((w21.setCell ⟨gb103,0,none⟩ (.string ((vq l0_0 x38_2).f0))).setCell ⟨gb103,1,none⟩ (.slice A102_1 ((vq l0_0 x38_2).f1).length c102_1)).setCell ⟨gb103,2,none⟩ (.slice A102_2 ((vq l0_0 x38_2).f2).length c102_2)).setCell ⟨gb103,3,none⟩ (.slice A102_3 ((vq l0_0 x38_2).f3).length c102_3)).setCell ⟨gb103,4,none⟩ (.slice A102_4 ((vq l0_0 x38_2).f4).length c102_4)).heap[gb103]? = some (.cells #[.string ((vq l0_0 x38_2).f0),.slice A102_1 ((vq l0_0 x38_2).f1).length c102_1,.slice A102_2 ((vq l0_0 x38_2).f2).length c102_2,.slice A102_3 ((vq l0_0 x38_2).f3).length c102_3,.slice A102_4 ((vq l0_0 x38_2).f4).length c102_4] 77 (0,0))) := ⟨by (with_reducible repeat (first | refine zz ?_ _ | refine zj ?_ | refine zq ?_ _));refine blk_put (cs := #[.string ((vq l0_0 x38_2).f0),.slice A102_1 ((vq l0_0 x38_2).f1).length c102_1,.slice A102_2 ((vq l0_0 x38_2).f2).length c102_2,.slice A102_3 ((vq l0_0 x38_2).f3).length c102_3,.slice none 0 0]) ?_ 4 _ rfl;(with_reducible repeat (first | refine zz ?_ _ | refine zj ?_ | refine zq ?_ _));refine blk_put (cs := #[.string ((vq l0_0 x38_2).f0),.slice A102_1 ((vq l0_0 x38_2).f1).length c102_1,.slice A102_2 ((vq l0_0 x38_2).f2).length c102_2,.slice none 0 0,.slice none 0 0]) ?_ 3 _ rfl;(with_reducible repeat (first | refine zz ?_ _ | refine zj ?_ | refine zq ?_ _));refine blk_put (cs := #[.string ((vq l0_0 x38_2).f0),.slice A102_1 ((vq l0_0 x38_2).f1).length c102_1,.slice none 0 0,.slice none 0 0,.slice none 0 0]) ?_ 2 _ rfl;(with_reducible repeat (first | refine zz ?_ _ | refine zj ?_ | refine zq ?_ _));refine blk_put (cs := #[.string ((vq l0_0 x38_2).f0),.slice none 0 0,.slice none 0 0,.slice none 0 0,.slice none 0 0]) ?_ 1 _ rfl;(with_reducible repeat (first | refine zz ?_ _ | refine zj ?_ | refine zq ?_ _));refine blk_put (cs := #[.string (⟨#[]⟩ : ByteArray),.slice none 0 0,.slice none 0 0,.slice none 0 0,.slice none 0 0]) ?_ 0 _ rfl;(with_reducible repeat (first | refine zz ?_ _ | refine zj ?_ | refine zq ?_ _));exact BK103.out⟩
               have n2_ : qq (Below w.heap.size w (((((w21.setCell ⟨gb103,0,none⟩ (.string ((vq l0_0 x38_2).f0))).setCell ⟨gb103,1,none⟩ (.slice A102_1 ((vq l0_0 x38_2).f1).length c102_1)).setCell ⟨gb103,2,none⟩ (.slice A102_2 ((vq l0_0 x38_2).f2).length c102_2)).setCell ⟨gb103,3,none⟩ (.slice A102_3 ((vq l0_0 x38_2).f3).length c102_3)).setCell ⟨gb103,4,none⟩ (.slice A102_4 ((vq l0_0 x38_2).f4).length c102_4))) := ⟨by repeat (first | (with_reducible first | exact HB.out | apply qj | apply qz | apply qk | refine qx ?_ GE101.out | refine qx ?_ GE103.out) | exact HB.out)⟩
               (try clear BK101)
               (try clear BK103)
               (try clear HB)
               generalize (((((w21.setCell ⟨gb103,0,none⟩ (.string ((vq l0_0 x38_2).f0))).setCell ⟨gb103,1,none⟩ (.slice A102_1 ((vq l0_0 x38_2).f1).length c102_1)).setCell ⟨gb103,2,none⟩ (.slice A102_2 ((vq l0_0 x38_2).f2).length c102_2)).setCell ⟨gb103,3,none⟩ (.slice A102_3 ((vq l0_0 x38_2).f3).length c102_3)).setCell ⟨gb103,4,none⟩ (.slice A102_4 ((vq l0_0 x38_2).f4).length c102_4)) = w63 at n0_ n1_ n2_ ⊢
               have BK101 := n0_
               have BK103 := n1_
               have HB := n2_
               clear n0_ n1_ n2_
               have hS_ := (show (fun w' => w'.cell? ⟨gb103,0,none⟩ = some (.string ((vq l0_0 x38_2).f0)) ∧ w'.cell? ⟨gb103,1,none⟩ = some (.slice A102_1 ((vq l0_0 x38_2).f1).length c102_1) ∧ w'.cell? ⟨gb103,2,none⟩ = some (.slice A102_2 ((vq l0_0 x38_2).f2).length c102_2) ∧ w'.cell? ⟨gb103,3,none⟩ = some (.slice A102_3 ((vq l0_0 x38_2).f3).length c102_3) ∧ w'.cell? ⟨gb103,4,none⟩ = some (.slice A102_4 ((vq l0_0 x38_2).f4).length c102_4)) (w63) from ⟨(qw BK103.out 0).trans rfl,(qw BK103.out 1).trans rfl,(qw BK103.out 2).trans rfl,(qw BK103.out 3).trans rfl,(qw BK103.out 4).trans rfl⟩)
               obtain ⟨hS0_,hS1_,hS2_,hS3_,hS4_⟩ := hS_
               go_quiet ((first | (go_at_call 40;exact Calls.quiet_of ((wv.calls k2 ((vq l0_0 x38_2).f0) true _ A24.out).mono fun _ _ h => ⟨h.1,h.2.out⟩)) | (go_at_call 47;exact Calls.quiet_of ((wk.calls k2 _ _ ((vq l0_0 x38_2).f3) false _ (by repeat (first | exact (Kd.C_below HR102_3.out (by repeat (first | (with_reducible first | exact HB.out | apply qj | apply qz | apply qk | refine qx ?_ GE101.out | refine qx ?_ GE103.out) | exact HB.out))) | (with_reducible refine Kd.C_alloc ?_ _) | (with_reducible refine Kd.C_drewN ?_ _) | (with_reducible refine Kd.C_drew ?_))) (by exact HC102_3.out) A59.out).mono fun _ _ h => ⟨h.1,h.2.out⟩))))
               clear hS0_ hS1_ hS2_ hS3_ hS4_
               have n0_ := qq.mk (zz BK101.out nq)
               have n1_ := qq.mk (zz BK103.out nq)
               have n2_ := qq.mk (qz HB.out nq)
               clear BK101
               clear BK103
               clear HB
               have BK101 := n0_
               have BK103 := n1_
               have HB := n2_
               clear n0_ n1_ n2_
               generalize World.drewN w63 nq = w64 at BK101 BK103 HB ⊢
               try go_wp2
               go_meet
               case rel => exact ⟨_,(true),(by first | rfl | (simp;done) | (simp [*];done)),H',⟨by have := HJ1.out;have := HK2.out;first | omega | exact Nat.le_refl _⟩,⟨by (with_reducible repeat (first | refine zz ?_ _ | refine zj ?_ | refine zq ?_ _));exact BK101.out⟩,⟨by (with_reducible repeat (first | refine zz ?_ _ | refine zj ?_ | refine zq ?_ _));exact BK103.out⟩,⟨by repeat (first | (with_reducible first | exact HB.out | apply qj | apply qz | apply qk | refine qx ?_ GE101.out | refine qx ?_ GE103.out) | exact HB.out)⟩⟩
            ·rw [if_neg c55] at H
             have c55b0 : ((((vq l0_0 x38_2).f1).length : Int) == 0) = false := beq_eq_false_iff_ne.mpr c55
             have c55b1 : ((((vq l0_0 x38_2).f1).length : Int) != 0) = true := bne_iff_ne.mpr c55
             have c55b2 : ¬ (((vq l0_0 x38_2).f1) = []) := fun h_ => c55 (by rw [h_];rfl)
             by_cases c65 : (((vq l0_0 x38_2).f1).length : Int) = 16
             ·rw [if_pos c65] at H
              have c65b0 : ((((vq l0_0 x38_2).f1).length : Int) == 16) = true := beq_iff_eq.mpr c65
              have c65b1 : ((((vq l0_0 x38_2).f1).length : Int) != 16) = false := bne_eq_false_iff_eq.mpr c65
              clear c65
              by_cases c66 : (((vq l0_0 x38_2).f2).length : Int) > 5
              ·rw [if_pos c66] at H
               have c66b0 : decide (5 < (((vq l0_0 x38_2).f2).length : Int)) = true := decide_eq_true c66
               have c66b1 : decide (5 < ((vq l0_0 x38_2).f2).length) = true := decide_eq_true (by omega)
               clear c66
               have H' := qq.mk H
               clear H
               try go_wp2
               have n0_ : qq ((((((w21.setCell ⟨gb103,0,none⟩ (.string ((vq l0_0 x38_2).f0))).setCell ⟨gb103,1,none⟩ (.slice A102_1 ((vq l0_0 x38_2).f1).length c102_1)).setCell ⟨gb103,2,none⟩ (.slice A102_2 ((vq l0_0 x38_2).f2).length c102_2)).setCell ⟨gb103,3,none⟩ (.slice A102_3 ((vq l0_0 x38_2).f3).length c102_3)).setCell ⟨gb103,4,none⟩ (.slice A102_4 ((vq l0_0 x38_2).f4).length c102_4)).heap[gb101]? = some (.cells #[.slice (some ad102) l0_0.length c0_0,.slice A0_1 l0_1.length c0_1,.int .i64 a0_2,.int .i64 a0_3] 45 (0,0))) := ⟨by (with_reducible repeat (first | refine zz ?_ _ | refine zj ?_ | refine zq ?_ _));refine blk_far ?_ NB101_103.out _;(with_reducible repeat (first | refine zz ?_ _ | refine zj ?_ | refine zq ?_ _));refine blk_far ?_ NB101_103.out _;(with_reducible repeat (first | refine zz ?_ _ | refine zj ?_ | refine zq ?_ _));refine blk_far ?_ NB101_103.out _;(with_reducible repeat (first | refine zz ?_ _ | refine zj ?_ | refine zq ?_ _));refine blk_far ?_ NB101_103.out _;(with_reducible repeat (first | refine zz ?_ _ | refine zj ?_ | refine zq ?_ _));refine blk_far ?_ NB101_103.out _;(with_reducible repeat (first | refine zz ?_ _ | refine zj ?_ | refine zq ?_ _));exact BK101.out⟩
               have n1_ : qq ((((((w21.setCell ⟨gb103,0,none⟩ (.string ((vq l0_0 x38_2).f0))).setCell ⟨gb103,1,none⟩ (.slice A102_1 ((vq l0_0 x38_2).f1).length c102_1)).setCell ⟨gb103,2,none⟩ (.slice A102_2 ((vq l0_0 x38_2).f2).length c102_2)).setCell ⟨gb103,3,none⟩ (.slice A102_3 ((vq l0_0 x38_2).f3).length c102_3)).setCell ⟨gb103,4,none⟩ (.slice A102_4 ((vq l0_0 x38_2).f4).length c102_4)).heap[gb103]? = some (.cells #[.string ((vq l0_0 x38_2).f0),.slice A102_1 ((vq l0_0 x38_2).f1).length c102_1,.slice A102_2 ((vq l0_0 x38_2).f2).length c102_2,.slice A102_3 ((vq l0_0 x38_2).f3).length c102_3,.slice A102_4 ((vq l0_0 x38_2).f4).length c102_4] 77 (0,0))) := ⟨by (with_reducible repeat (first | refine zz ?_ _ | refine zj ?_ | refine zq ?_ _));refine blk_put (cs := #[.string ((vq l0_0 x38_2).f0),.slice A102_1 ((vq l0_0 x38_2).f1).length c102_1,.slice A102_2 ((vq l0_0 x38_2).f2).length c102_2,.slice A102_3 ((vq l0_0 x38_2).f3).length c102_3,.slice none 0 0]) ?_ 4 _ rfl;(with_reducible repeat (first | refine zz ?_ _ | refine zj ?_ | refine zq ?_ _));refine blk_put (cs := #[.string ((vq l0_0 x38_2).f0),.slice A102_1 ((vq l0_0 x38_2).f1).length c102_1,.slice A102_2 ((vq l0_0 x38_2).f2).length c102_2,.slice none 0 0,.slice none 0 0]) ?_ 3 _ rfl;(with_reducible repeat (first | refine zz ?_ _ | refine zj ?_ | refine zq ?_ _));refine blk_put (cs := #[.string ((vq l0_0 x38_2).f0),.slice A102_1 ((vq l0_0 x38_2).f1).length c102_1,.slice none 0 0,.slice none 0 0,.slice none 0 0]) ?_ 2 _ rfl;(with_reducible repeat (first | refine zz ?_ _ | refine zj ?_ | refine zq ?_ _));refine blk_put (cs := #[.string ((vq l0_0 x38_2).f0),.slice none 0 0,.slice none 0 0,.slice none 0 0,.slice none 0 0]) ?_ 1 _ rfl;(with_reducible repeat (first | refine zz ?_ _ | refine zj ?_ | refine zq ?_ _));refine blk_put (cs := #[.string (⟨#[]⟩ : ByteArray),.slice none 0 0,.slice none 0 0,.slice none 0 0,.slice none 0 0]) ?_ 0 _ rfl;(with_reducible repeat (first | refine zz ?_ _ | refine zj ?_ | refine zq ?_ _));exact BK103.out⟩
               have n2_ : qq (Below w.heap.size w (((((w21.setCell ⟨gb103,0,none⟩ (.string ((vq l0_0 x38_2).f0))).setCell ⟨gb103,1,none⟩ (.slice A102_1 ((vq l0_0 x38_2).f1).length c102_1)).setCell ⟨gb103,2,none⟩ (.slice A102_2 ((vq l0_0 x38_2).f2).length c102_2)).setCell ⟨gb103,3,none⟩ (.slice A102_3 ((vq l0_0 x38_2).f3).length c102_3)).setCell ⟨gb103,4,none⟩ (.slice A102_4 ((vq l0_0 x38_2).f4).length c102_4))) := ⟨by repeat (first | (with_reducible first | exact HB.out | apply qj | apply qz | apply qk | refine qx ?_ GE101.out | refine qx ?_ GE103.out) | exact HB.out)⟩
               (try clear BK101)
               (try clear BK103)
               (try clear HB)
               generalize (((((w21.setCell ⟨gb103,0,none⟩ (.string ((vq l0_0 x38_2).f0))).setCell ⟨gb103,1,none⟩ (.slice A102_1 ((vq l0_0 x38_2).f1).length c102_1)).setCell ⟨gb103,2,none⟩ (.slice A102_2 ((vq l0_0 x38_2).f2).length c102_2)).setCell ⟨gb103,3,none⟩ (.slice A102_3 ((vq l0_0 x38_2).f3).length c102_3)).setCell ⟨gb103,4,none⟩ (.slice A102_4 ((vq l0_0 x38_2).f4).length c102_4)) = w67 at n0_ n1_ n2_ ⊢
               have BK101 := n0_
               have BK103 := n1_
               have HB := n2_
               clear n0_ n1_ n2_
               have hS_ := (show (fun w' => w'.cell? ⟨gb103,0,none⟩ = some (.string ((vq l0_0 x38_2).f0)) ∧ w'.cell? ⟨gb103,1,none⟩ = some (.slice A102_1 ((vq l0_0 x38_2).f1).length c102_1) ∧ w'.cell? ⟨gb103,2,none⟩ = some (.slice A102_2 ((vq l0_0 x38_2).f2).length c102_2) ∧ w'.cell? ⟨gb103,3,none⟩ = some (.slice A102_3 ((vq l0_0 x38_2).f3).length c102_3) ∧ w'.cell? ⟨gb103,4,none⟩ = some (.slice A102_4 ((vq l0_0 x38_2).f4).length c102_4)) (w67) from ⟨(qw BK103.out 0).trans rfl,(qw BK103.out 1).trans rfl,(qw BK103.out 2).trans rfl,(qw BK103.out 3).trans rfl,(qw BK103.out 4).trans rfl⟩)
               obtain ⟨hS0_,hS1_,hS2_,hS3_,hS4_⟩ := hS_
               go_quiet ((first | (go_at_call 40;exact Calls.quiet_of ((wv.calls k2 ((vq l0_0 x38_2).f0) true _ A24.out).mono fun _ _ h => ⟨h.1,h.2.out⟩))))
               clear hS0_ hS1_ hS2_ hS3_ hS4_
               have n0_ := qq.mk (zz BK101.out nq)
               have n1_ := qq.mk (zz BK103.out nq)
               have n2_ := qq.mk (qz HB.out nq)
               clear BK101
               clear BK103
               clear HB
               have BK101 := n0_
               have BK103 := n1_
               have HB := n2_
               clear n0_ n1_ n2_
               generalize World.drewN w67 nq = w68 at BK101 BK103 HB ⊢
               try go_wp2
               go_meet
               case rel => exact ⟨_,(true),(by first | rfl | (simp;done) | (simp [*];done)),H',⟨by have := HJ1.out;have := HK2.out;first | omega | exact Nat.le_refl _⟩,⟨by (with_reducible repeat (first | refine zz ?_ _ | refine zj ?_ | refine zq ?_ _));exact BK101.out⟩,⟨by (with_reducible repeat (first | refine zz ?_ _ | refine zj ?_ | refine zq ?_ _));exact BK103.out⟩,⟨by repeat (first | (with_reducible first | exact HB.out | apply qj | apply qz | apply qk | refine qx ?_ GE101.out | refine qx ?_ GE103.out) | exact HB.out)⟩⟩
              ·rw [if_neg c66] at H
               have c66b0 : decide (5 < (((vq l0_0 x38_2).f2).length : Int)) = false := decide_eq_false c66
               have c66b1 : decide (5 < ((vq l0_0 x38_2).f2).length) = false := decide_eq_false (by omega)
               clear c66
               replace H := Option.bind_eq_some_iff.mp H
               obtain ⟨t109,A690,H⟩ := H
               replace H : (if t109 = true then (vv.j2 k2 l0_0 (l0_0.length : Int) x38_2 (decide ((((vq l0_0 x38_2).f4).length : Int) > 4)) l0_0 l0_1 a0_2 a0_3 ((vq l0_0 x38_2).f0) ((vq l0_0 x38_2).f1) ((vq l0_0 x38_2).f2) ((vq l0_0 x38_2).f3) ((vq l0_0 x38_2).f4)) else (vv.j2 k2 l0_0 (l0_0.length : Int) x38_2 true l0_0 l0_1 a0_2 a0_3 ((vq l0_0 x38_2).f0) ((vq l0_0 x38_2).f1) ((vq l0_0 x38_2).f2) ((vq l0_0 x38_2).f3) ((vq l0_0 x38_2).f4))) = some r := H
               have A69 := qq.mk A690
               clear A690
               by_cases c70 : t109 = true
               ·subst c70
                have H1 : (vv.j2 k2 l0_0 (l0_0.length : Int) x38_2 (decide ((((vq l0_0 x38_2).f4).length : Int) > 4)) l0_0 l0_1 a0_2 a0_3 ((vq l0_0 x38_2).f0) ((vq l0_0 x38_2).f1) ((vq l0_0 x38_2).f2) ((vq l0_0 x38_2).f3) ((vq l0_0 x38_2).f4)) = some r := by rw [if_pos rfl] at H;exact H
                clear H
                have H := H1
                clear H1
                have H' := qq.mk H
                clear H
                try go_wp2
                have n0_ : qq ((((((w21.setCell ⟨gb103,0,none⟩ (.string ((vq l0_0 x38_2).f0))).setCell ⟨gb103,1,none⟩ (.slice A102_1 ((vq l0_0 x38_2).f1).length c102_1)).setCell ⟨gb103,2,none⟩ (.slice A102_2 ((vq l0_0 x38_2).f2).length c102_2)).setCell ⟨gb103,3,none⟩ (.slice A102_3 ((vq l0_0 x38_2).f3).length c102_3)).setCell ⟨gb103,4,none⟩ (.slice A102_4 ((vq l0_0 x38_2).f4).length c102_4)).heap[gb101]? = some (.cells #[.slice (some ad102) l0_0.length c0_0,.slice A0_1 l0_1.length c0_1,.int .i64 a0_2,.int .i64 a0_3] 45 (0,0))) := ⟨by (with_reducible repeat (first | refine zz ?_ _ | refine zj ?_ | refine zq ?_ _));refine blk_far ?_ NB101_103.out _;(with_reducible repeat (first | refine zz ?_ _ | refine zj ?_ | refine zq ?_ _));refine blk_far ?_ NB101_103.out _;(with_reducible repeat (first | refine zz ?_ _ | refine zj ?_ | refine zq ?_ _));refine blk_far ?_ NB101_103.out _;(with_reducible repeat (first | refine zz ?_ _ | refine zj ?_ | refine zq ?_ _));refine blk_far ?_ NB101_103.out _;(with_reducible repeat (first | refine zz ?_ _ | refine zj ?_ | refine zq ?_ _));refine blk_far ?_ NB101_103.out _;(with_reducible repeat (first | refine zz ?_ _ | refine zj ?_ | refine zq ?_ _));exact BK101.out⟩
                have n1_ : qq ((((((w21.setCell ⟨gb103,0,none⟩ (.string ((vq l0_0 x38_2).f0))).setCell ⟨gb103,1,none⟩ (.slice A102_1 ((vq l0_0 x38_2).f1).length c102_1)).setCell ⟨gb103,2,none⟩ (.slice A102_2 ((vq l0_0 x38_2).f2).length c102_2)).setCell ⟨gb103,3,none⟩ (.slice A102_3 ((vq l0_0 x38_2).f3).length c102_3)).setCell ⟨gb103,4,none⟩ (.slice A102_4 ((vq l0_0 x38_2).f4).length c102_4)).heap[gb103]? = some (.cells #[.string ((vq l0_0 x38_2).f0),.slice A102_1 ((vq l0_0 x38_2).f1).length c102_1,.slice A102_2 ((vq l0_0 x38_2).f2).length c102_2,.slice A102_3 ((vq l0_0 x38_2).f3).length c102_3,.slice A102_4 ((vq l0_0 x38_2).f4).length c102_4] 77 (0,0))) := ⟨by (with_reducible repeat (first | refine zz ?_ _ | refine zj ?_ | refine zq ?_ _));refine blk_put (cs := #[.string ((vq l0_0 x38_2).f0),.slice A102_1 ((vq l0_0 x38_2).f1).length c102_1,.slice A102_2 ((vq l0_0 x38_2).f2).length c102_2,.slice A102_3 ((vq l0_0 x38_2).f3).length c102_3,.slice none 0 0]) ?_ 4 _ rfl;(with_reducible repeat (first | refine zz ?_ _ | refine zj ?_ | refine zq ?_ _));refine blk_put (cs := #[.string ((vq l0_0 x38_2).f0),.slice A102_1 ((vq l0_0 x38_2).f1).length c102_1,.slice A102_2 ((vq l0_0 x38_2).f2).length c102_2,.slice none 0 0,.slice none 0 0]) ?_ 3 _ rfl;(with_reducible repeat (first | refine zz ?_ _ | refine zj ?_ | refine zq ?_ _));refine blk_put (cs := #[.string ((vq l0_0 x38_2).f0),.slice A102_1 ((vq l0_0 x38_2).f1).length c102_1,.slice none 0 0,.slice none 0 0,.slice none 0 0]) ?_ 2 _ rfl;(with_reducible repeat (first | refine zz ?_ _ | refine zj ?_ | refine zq ?_ _));refine blk_put (cs := #[.string ((vq l0_0 x38_2).f0),.slice none 0 0,.slice none 0 0,.slice none 0 0,.slice none 0 0]) ?_ 1 _ rfl;(with_reducible repeat (first | refine zz ?_ _ | refine zj ?_ | refine zq ?_ _));refine blk_put (cs := #[.string (⟨#[]⟩ : ByteArray),.slice none 0 0,.slice none 0 0,.slice none 0 0,.slice none 0 0]) ?_ 0 _ rfl;(with_reducible repeat (first | refine zz ?_ _ | refine zj ?_ | refine zq ?_ _));exact BK103.out⟩
                have n2_ : qq (Below w.heap.size w (((((w21.setCell ⟨gb103,0,none⟩ (.string ((vq l0_0 x38_2).f0))).setCell ⟨gb103,1,none⟩ (.slice A102_1 ((vq l0_0 x38_2).f1).length c102_1)).setCell ⟨gb103,2,none⟩ (.slice A102_2 ((vq l0_0 x38_2).f2).length c102_2)).setCell ⟨gb103,3,none⟩ (.slice A102_3 ((vq l0_0 x38_2).f3).length c102_3)).setCell ⟨gb103,4,none⟩ (.slice A102_4 ((vq l0_0 x38_2).f4).length c102_4))) := ⟨by repeat (first | (with_reducible first | exact HB.out | apply qj | apply qz | apply qk | refine qx ?_ GE101.out | refine qx ?_ GE103.out) | exact HB.out)⟩
                (try clear BK101)
                (try clear BK103)
                (try clear HB)
                generalize (((((w21.setCell ⟨gb103,0,none⟩ (.string ((vq l0_0 x38_2).f0))).setCell ⟨gb103,1,none⟩ (.slice A102_1 ((vq l0_0 x38_2).f1).length c102_1)).setCell ⟨gb103,2,none⟩ (.slice A102_2 ((vq l0_0 x38_2).f2).length c102_2)).setCell ⟨gb103,3,none⟩ (.slice A102_3 ((vq l0_0 x38_2).f3).length c102_3)).setCell ⟨gb103,4,none⟩ (.slice A102_4 ((vq l0_0 x38_2).f4).length c102_4)) = w71 at n0_ n1_ n2_ ⊢
                have BK101 := n0_
                have BK103 := n1_
                have HB := n2_
                clear n0_ n1_ n2_
                have hS_ := (show (fun w' => w'.cell? ⟨gb103,0,none⟩ = some (.string ((vq l0_0 x38_2).f0)) ∧ w'.cell? ⟨gb103,1,none⟩ = some (.slice A102_1 ((vq l0_0 x38_2).f1).length c102_1) ∧ w'.cell? ⟨gb103,2,none⟩ = some (.slice A102_2 ((vq l0_0 x38_2).f2).length c102_2) ∧ w'.cell? ⟨gb103,3,none⟩ = some (.slice A102_3 ((vq l0_0 x38_2).f3).length c102_3) ∧ w'.cell? ⟨gb103,4,none⟩ = some (.slice A102_4 ((vq l0_0 x38_2).f4).length c102_4)) (w71) from ⟨(qw BK103.out 0).trans rfl,(qw BK103.out 1).trans rfl,(qw BK103.out 2).trans rfl,(qw BK103.out 3).trans rfl,(qw BK103.out 4).trans rfl⟩)
                obtain ⟨hS0_,hS1_,hS2_,hS3_,hS4_⟩ := hS_
                go_quiet ((first | (go_at_call 40;exact Calls.quiet_of ((wv.calls k2 ((vq l0_0 x38_2).f0) true _ A24.out).mono fun _ _ h => ⟨h.1,h.2.out⟩)) | (go_at_call 47;exact Calls.quiet_of ((wk.calls k2 _ _ ((vq l0_0 x38_2).f3) true _ (by repeat (first | exact (Kd.C_below HR102_3.out (by repeat (first | (with_reducible first | exact HB.out | apply qj | apply qz | apply qk | refine qx ?_ GE101.out | refine qx ?_ GE103.out) | exact HB.out))) | (with_reducible refine Kd.C_alloc ?_ _) | (with_reducible refine Kd.C_drewN ?_ _) | (with_reducible refine Kd.C_drew ?_))) (by exact HC102_3.out) A69.out).mono fun _ _ h => ⟨h.1,h.2.out⟩))))
                clear hS0_ hS1_ hS2_ hS3_ hS4_
                have n0_ := qq.mk (zz BK101.out nq)
                have n1_ := qq.mk (zz BK103.out nq)
                have n2_ := qq.mk (qz HB.out nq)
                clear BK101
                clear BK103
                clear HB
                have BK101 := n0_
                have BK103 := n1_
                have HB := n2_
                clear n0_ n1_ n2_
                generalize World.drewN w71 nq = w72 at BK101 BK103 HB ⊢
                try go_wp2
                go_meet
                case rel => exact ⟨_,(decide ((((vq l0_0 x38_2).f4).length : Int) > 4)),(by first | rfl | (simp;done) | (simp [*];done)),H',⟨by have := HJ1.out;have := HK2.out;first | omega | exact Nat.le_refl _⟩,⟨by (with_reducible repeat (first | refine zz ?_ _ | refine zj ?_ | refine zq ?_ _));exact BK101.out⟩,⟨by (with_reducible repeat (first | refine zz ?_ _ | refine zj ?_ | refine zq ?_ _));exact BK103.out⟩,⟨by repeat (first | (with_reducible first | exact HB.out | apply qj | apply qz | apply qk | refine qx ?_ GE101.out | refine qx ?_ GE103.out) | exact HB.out)⟩⟩
               ·replace c70 := Bool.eq_false_iff.mpr c70
                subst c70
                have H1 : (vv.j2 k2 l0_0 (l0_0.length : Int) x38_2 true l0_0 l0_1 a0_2 a0_3 ((vq l0_0 x38_2).f0) ((vq l0_0 x38_2).f1) ((vq l0_0 x38_2).f2) ((vq l0_0 x38_2).f3) ((vq l0_0 x38_2).f4)) = some r := by rw [if_neg (show ¬ (false = true) by decide)] at H;exact H
                clear H
                have H := H1
                clear H1
                have H' := qq.mk H
                clear H
                try go_wp2
                have n0_ : qq ((((((w21.setCell ⟨gb103,0,none⟩ (.string ((vq l0_0 x38_2).f0))).setCell ⟨gb103,1,none⟩ (.slice A102_1 ((vq l0_0 x38_2).f1).length c102_1)).setCell ⟨gb103,2,none⟩ (.slice A102_2 ((vq l0_0 x38_2).f2).length c102_2)).setCell ⟨gb103,3,none⟩ (.slice A102_3 ((vq l0_0 x38_2).f3).length c102_3)).setCell ⟨gb103,4,none⟩ (.slice A102_4 ((vq l0_0 x38_2).f4).length c102_4)).heap[gb101]? = some (.cells #[.slice (some ad102) l0_0.length c0_0,.slice A0_1 l0_1.length c0_1,.int .i64 a0_2,.int .i64 a0_3] 45 (0,0))) := ⟨by (with_reducible repeat (first | refine zz ?_ _ | refine zj ?_ | refine zq ?_ _));refine blk_far ?_ NB101_103.out _;(with_reducible repeat (first | refine zz ?_ _ | refine zj ?_ | refine zq ?_ _));refine blk_far ?_ NB101_103.out _;(with_reducible repeat (first | refine zz ?_ _ | refine zj ?_ | refine zq ?_ _));refine blk_far ?_ NB101_103.out _;(with_reducible repeat (first | refine zz ?_ _ | refine zj ?_ | refine zq ?_ _));refine blk_far ?_ NB101_103.out _;(with_reducible repeat (first | refine zz ?_ _ | refine zj ?_ | refine zq ?_ _));refine blk_far ?_ NB101_103.out _;(with_reducible repeat (first | refine zz ?_ _ | refine zj ?_ | refine zq ?_ _));exact BK101.out⟩
                have n1_ : qq ((((((w21.setCell ⟨gb103,0,none⟩ (.string ((vq l0_0 x38_2).f0))).setCell ⟨gb103,1,none⟩ (.slice A102_1 ((vq l0_0 x38_2).f1).length c102_1)).setCell ⟨gb103,2,none⟩ (.slice A102_2 ((vq l0_0 x38_2).f2).length c102_2)).setCell ⟨gb103,3,none⟩ (.slice A102_3 ((vq l0_0 x38_2).f3).length c102_3)).setCell ⟨gb103,4,none⟩ (.slice A102_4 ((vq l0_0 x38_2).f4).length c102_4)).heap[gb103]? = some (.cells #[.string ((vq l0_0 x38_2).f0),.slice A102_1 ((vq l0_0 x38_2).f1).length c102_1,.slice A102_2 ((vq l0_0 x38_2).f2).length c102_2,.slice A102_3 ((vq l0_0 x38_2).f3).length c102_3,.slice A102_4 ((vq l0_0 x38_2).f4).length c102_4] 77 (0,0))) := ⟨by (with_reducible repeat (first | refine zz ?_ _ | refine zj ?_ | refine zq ?_ _));refine blk_put (cs := #[.string ((vq l0_0 x38_2).f0),.slice A102_1 ((vq l0_0 x38_2).f1).length c102_1,.slice A102_2 ((vq l0_0 x38_2).f2).length c102_2,.slice A102_3 ((vq l0_0 x38_2).f3).length c102_3,.slice none 0 0]) ?_ 4 _ rfl;(with_reducible repeat (first | refine zz ?_ _ | refine zj ?_ | refine zq ?_ _));refine blk_put (cs := #[.string ((vq l0_0 x38_2).f0),.slice A102_1 ((vq l0_0 x38_2).f1).length c102_1,.slice A102_2 ((vq l0_0 x38_2).f2).length c102_2,.slice none 0 0,.slice none 0 0]) ?_ 3 _ rfl;(with_reducible repeat (first | refine zz ?_ _ | refine zj ?_ | refine zq ?_ _));refine blk_put (cs := #[.string ((vq l0_0 x38_2).f0),.slice A102_1 ((vq l0_0 x38_2).f1).length c102_1,.slice none 0 0,.slice none 0 0,.slice none 0 0]) ?_ 2 _ rfl;(with_reducible repeat (first | refine zz ?_ _ | refine zj ?_ | refine zq ?_ _));refine blk_put (cs := #[.string ((vq l0_0 x38_2).f0),.slice none 0 0,.slice none 0 0,.slice none 0 0,.slice none 0 0]) ?_ 1 _ rfl;(with_reducible repeat (first | refine zz ?_ _ | refine zj ?_ | refine zq ?_ _));refine blk_put (cs := #[.string (⟨#[]⟩ : ByteArray),.slice none 0 0,.slice none 0 0,.slice none 0 0,.slice none 0 0]) ?_ 0 _ rfl;(with_reducible repeat (first | refine zz ?_ _ | refine zj ?_ | refine zq ?_ _));exact BK103.out⟩
                have n2_ : qq (Below w.heap.size w (((((w21.setCell ⟨gb103,0,none⟩ (.string ((vq l0_0 x38_2).f0))).setCell ⟨gb103,1,none⟩ (.slice A102_1 ((vq l0_0 x38_2).f1).length c102_1)).setCell ⟨gb103,2,none⟩ (.slice A102_2 ((vq l0_0 x38_2).f2).length c102_2)).setCell ⟨gb103,3,none⟩ (.slice A102_3 ((vq l0_0 x38_2).f3).length c102_3)).setCell ⟨gb103,4,none⟩ (.slice A102_4 ((vq l0_0 x38_2).f4).length c102_4))) := ⟨by repeat (first | (with_reducible first | exact HB.out | apply qj | apply qz | apply qk | refine qx ?_ GE101.out | refine qx ?_ GE103.out) | exact HB.out)⟩
                (try clear BK101)
                (try clear BK103)
                (try clear HB)
                generalize (((((w21.setCell ⟨gb103,0,none⟩ (.string ((vq l0_0 x38_2).f0))).setCell ⟨gb103,1,none⟩ (.slice A102_1 ((vq l0_0 x38_2).f1).length c102_1)).setCell ⟨gb103,2,none⟩ (.slice A102_2 ((vq l0_0 x38_2).f2).length c102_2)).setCell ⟨gb103,3,none⟩ (.slice A102_3 ((vq l0_0 x38_2).f3).length c102_3)).setCell ⟨gb103,4,none⟩ (.slice A102_4 ((vq l0_0 x38_2).f4).length c102_4)) = w73 at n0_ n1_ n2_ ⊢
                have BK101 := n0_
                have BK103 := n1_
                have HB := n2_
                clear n0_ n1_ n2_
                have hS_ := (show (fun w' => w'.cell? ⟨gb103,0,none⟩ = some (.string ((vq l0_0 x38_2).f0)) ∧ w'.cell? ⟨gb103,1,none⟩ = some (.slice A102_1 ((vq l0_0 x38_2).f1).length c102_1) ∧ w'.cell? ⟨gb103,2,none⟩ = some (.slice A102_2 ((vq l0_0 x38_2).f2).length c102_2) ∧ w'.cell? ⟨gb103,3,none⟩ = some (.slice A102_3 ((vq l0_0 x38_2).f3).length c102_3) ∧ w'.cell? ⟨gb103,4,none⟩ = some (.slice A102_4 ((vq l0_0 x38_2).f4).length c102_4)) (w73) from ⟨(qw BK103.out 0).trans rfl,(qw BK103.out 1).trans rfl,(qw BK103.out 2).trans rfl,(qw BK103.out 3).trans rfl,(qw BK103.out 4).trans rfl⟩)
                obtain ⟨hS0_,hS1_,hS2_,hS3_,hS4_⟩ := hS_
                go_quiet ((first | (go_at_call 40;exact Calls.quiet_of ((wv.calls k2 ((vq l0_0 x38_2).f0) true _ A24.out).mono fun _ _ h => ⟨h.1,h.2.out⟩)) | (go_at_call 47;exact Calls.quiet_of ((wk.calls k2 _ _ ((vq l0_0 x38_2).f3) false _ (by repeat (first | exact (Kd.C_below HR102_3.out (by repeat (first | (with_reducible first | exact HB.out | apply qj | apply qz | apply qk | refine qx ?_ GE101.out | refine qx ?_ GE103.out) | exact HB.out))) | (with_reducible refine Kd.C_alloc ?_ _) | (with_reducible refine Kd.C_drewN ?_ _) | (with_reducible refine Kd.C_drew ?_))) (by exact HC102_3.out) A69.out).mono fun _ _ h => ⟨h.1,h.2.out⟩))))
                clear hS0_ hS1_ hS2_ hS3_ hS4_
                have n0_ := qq.mk (zz BK101.out nq)
                have n1_ := qq.mk (zz BK103.out nq)
                have n2_ := qq.mk (qz HB.out nq)
                clear BK101
                clear BK103
                clear HB
                have BK101 := n0_
                have BK103 := n1_
                have HB := n2_
                clear n0_ n1_ n2_
                generalize World.drewN w73 nq = w74 at BK101 BK103 HB ⊢
                try go_wp2
                go_meet
                case rel => exact ⟨_,(true),(by first | rfl | (simp;done) | (simp [*];done)),H',⟨by have := HJ1.out;have := HK2.out;first | omega | exact Nat.le_refl _⟩,⟨by (with_reducible repeat (first | refine zz ?_ _ | refine zj ?_ | refine zq ?_ _));exact BK101.out⟩,⟨by (with_reducible repeat (first | refine zz ?_ _ | refine zj ?_ | refine zq ?_ _));exact BK103.out⟩,⟨by repeat (first | (with_reducible first | exact HB.out | apply qj | apply qz | apply qk | refine qx ?_ GE101.out | refine qx ?_ GE103.out) | exact HB.out)⟩⟩
             ·rw [if_neg c65] at H
              have c65b0 : ((((vq l0_0 x38_2).f1).length : Int) == 16) = false := beq_eq_false_iff_ne.mpr c65
              have c65b1 : ((((vq l0_0 x38_2).f1).length : Int) != 16) = true := bne_iff_ne.mpr c65
              have H' := qq.mk H
              clear H
              try go_wp2
              have n0_ : qq ((((((w21.setCell ⟨gb103,0,none⟩ (.string ((vq l0_0 x38_2).f0))).setCell ⟨gb103,1,none⟩ (.slice A102_1 ((vq l0_0 x38_2).f1).length c102_1)).setCell ⟨gb103,2,none⟩ (.slice A102_2 ((vq l0_0 x38_2).f2).length c102_2)).setCell ⟨gb103,3,none⟩ (.slice A102_3 ((vq l0_0 x38_2).f3).length c102_3)).setCell ⟨gb103,4,none⟩ (.slice A102_4 ((vq l0_0 x38_2).f4).length c102_4)).heap[gb101]? = some (.cells #[.slice (some ad102) l0_0.length c0_0,.slice A0_1 l0_1.length c0_1,.int .i64 a0_2,.int .i64 a0_3] 45 (0,0))) := ⟨by (with_reducible repeat (first | refine zz ?_ _ | refine zj ?_ | refine zq ?_ _));refine blk_far ?_ NB101_103.out _;(with_reducible repeat (first | refine zz ?_ _ | refine zj ?_ | refine zq ?_ _));refine blk_far ?_ NB101_103.out _;(with_reducible repeat (first | refine zz ?_ _ | refine zj ?_ | refine zq ?_ _));refine blk_far ?_ NB101_103.out _;(with_reducible repeat (first | refine zz ?_ _ | refine zj ?_ | refine zq ?_ _));refine blk_far ?_ NB101_103.out _;(with_reducible repeat (first | refine zz ?_ _ | refine zj ?_ | refine zq ?_ _));refine blk_far ?_ NB101_103.out _;(with_reducible repeat (first | refine zz ?_ _ | refine zj ?_ | refine zq ?_ _));exact BK101.out⟩
              have n1_ : qq ((((((w21.setCell ⟨gb103,0,none⟩ (.string ((vq l0_0 x38_2).f0))).setCell ⟨gb103,1,none⟩ (.slice A102_1 ((vq l0_0 x38_2).f1).length c102_1)).setCell ⟨gb103,2,none⟩ (.slice A102_2 ((vq l0_0 x38_2).f2).length c102_2)).setCell ⟨gb103,3,none⟩ (.slice A102_3 ((vq l0_0 x38_2).f3).length c102_3)).setCell ⟨gb103,4,none⟩ (.slice A102_4 ((vq l0_0 x38_2).f4).length c102_4)).heap[gb103]? = some (.cells #[.string ((vq l0_0 x38_2).f0),.slice A102_1 ((vq l0_0 x38_2).f1).length c102_1,.slice A102_2 ((vq l0_0 x38_2).f2).length c102_2,.slice A102_3 ((vq l0_0 x38_2).f3).length c102_3,.slice A102_4 ((vq l0_0 x38_2).f4).length c102_4] 77 (0,0))) := ⟨by (with_reducible repeat (first | refine zz ?_ _ | refine zj ?_ | refine zq ?_ _));refine blk_put (cs := #[.string ((vq l0_0 x38_2).f0),.slice A102_1 ((vq l0_0 x38_2).f1).length c102_1,.slice A102_2 ((vq l0_0 x38_2).f2).length c102_2,.slice A102_3 ((vq l0_0 x38_2).f3).length c102_3,.slice none 0 0]) ?_ 4 _ rfl;(with_reducible repeat (first | refine zz ?_ _ | refine zj ?_ | refine zq ?_ _));refine blk_put (cs := #[.string ((vq l0_0 x38_2).f0),.slice A102_1 ((vq l0_0 x38_2).f1).length c102_1,.slice A102_2 ((vq l0_0 x38_2).f2).length c102_2,.slice none 0 0,.slice none 0 0]) ?_ 3 _ rfl;(with_reducible repeat (first | refine zz ?_ _ | refine zj ?_ | refine zq ?_ _));refine blk_put (cs := #[.string ((vq l0_0 x38_2).f0),.slice A102_1 ((vq l0_0 x38_2).f1).length c102_1,.slice none 0 0,.slice none 0 0,.slice none 0 0]) ?_ 2 _ rfl;(with_reducible repeat (first | refine zz ?_ _ | refine zj ?_ | refine zq ?_ _));refine blk_put (cs := #[.string ((vq l0_0 x38_2).f0),.slice none 0 0,.slice none 0 0,.slice none 0 0,.slice none 0 0]) ?_ 1 _ rfl;(with_reducible repeat (first | refine zz ?_ _ | refine zj ?_ | refine zq ?_ _));refine blk_put (cs := #[.string (⟨#[]⟩ : ByteArray),.slice none 0 0,.slice none 0 0,.slice none 0 0,.slice none 0 0]) ?_ 0 _ rfl;(with_reducible repeat (first | refine zz ?_ _ | refine zj ?_ | refine zq ?_ _));exact BK103.out⟩
              have n2_ : qq (Below w.heap.size w (((((w21.setCell ⟨gb103,0,none⟩ (.string ((vq l0_0 x38_2).f0))).setCell ⟨gb103,1,none⟩ (.slice A102_1 ((vq l0_0 x38_2).f1).length c102_1)).setCell ⟨gb103,2,none⟩ (.slice A102_2 ((vq l0_0 x38_2).f2).length c102_2)).setCell ⟨gb103,3,none⟩ (.slice A102_3 ((vq l0_0 x38_2).f3).length c102_3)).setCell ⟨gb103,4,none⟩ (.slice A102_4 ((vq l0_0 x38_2).f4).length c102_4))) := ⟨by repeat (first | (with_reducible first | exact HB.out | apply qj | apply qz | apply qk | refine qx ?_ GE101.out | refine qx ?_ GE103.out) | exact HB.out)⟩
              (try clear BK101)
              (try clear BK103)
              (try clear HB)
              generalize (((((w21.setCell ⟨gb103,0,none⟩ (.string ((vq l0_0 x38_2).f0))).setCell ⟨gb103,1,none⟩ (.slice A102_1 ((vq l0_0 x38_2).f1).length c102_1)).setCell ⟨gb103,2,none⟩ (.slice A102_2 ((vq l0_0 x38_2).f2).length c102_2)).setCell ⟨gb103,3,none⟩ (.slice A102_3 ((vq l0_0 x38_2).f3).length c102_3)).setCell ⟨gb103,4,none⟩ (.slice A102_4 ((vq l0_0 x38_2).f4).length c102_4)) = w75 at n0_ n1_ n2_ ⊢
              have BK101 := n0_
              have BK103 := n1_
              have HB := n2_
              clear n0_ n1_ n2_
              have hS_ := (show (fun w' => w'.cell? ⟨gb103,0,none⟩ = some (.string ((vq l0_0 x38_2).f0)) ∧ w'.cell? ⟨gb103,1,none⟩ = some (.slice A102_1 ((vq l0_0 x38_2).f1).length c102_1) ∧ w'.cell? ⟨gb103,2,none⟩ = some (.slice A102_2 ((vq l0_0 x38_2).f2).length c102_2) ∧ w'.cell? ⟨gb103,3,none⟩ = some (.slice A102_3 ((vq l0_0 x38_2).f3).length c102_3) ∧ w'.cell? ⟨gb103,4,none⟩ = some (.slice A102_4 ((vq l0_0 x38_2).f4).length c102_4)) (w75) from ⟨(qw BK103.out 0).trans rfl,(qw BK103.out 1).trans rfl,(qw BK103.out 2).trans rfl,(qw BK103.out 3).trans rfl,(qw BK103.out 4).trans rfl⟩)
              obtain ⟨hS0_,hS1_,hS2_,hS3_,hS4_⟩ := hS_
              go_quiet ((first | (go_at_call 40;exact Calls.quiet_of ((wv.calls k2 ((vq l0_0 x38_2).f0) true _ A24.out).mono fun _ _ h => ⟨h.1,h.2.out⟩))))
              clear hS0_ hS1_ hS2_ hS3_ hS4_
              have n0_ := qq.mk (zz BK101.out nq)
              have n1_ := qq.mk (zz BK103.out nq)
              have n2_ := qq.mk (qz HB.out nq)
              clear BK101
              clear BK103
              clear HB
              have BK101 := n0_
              have BK103 := n1_
              have HB := n2_
              clear n0_ n1_ n2_
              generalize World.drewN w75 nq = w76 at BK101 BK103 HB ⊢
              try go_wp2
              go_meet
              case rel => exact ⟨_,(true),(by first | rfl | (simp;done) | (simp [*];done)),H',⟨by have := HJ1.out;have := HK2.out;first | omega | exact Nat.le_refl _⟩,⟨by (with_reducible repeat (first | refine zz ?_ _ | refine zj ?_ | refine zq ?_ _));exact BK101.out⟩,⟨by (with_reducible repeat (first | refine zz ?_ _ | refine zj ?_ | refine zq ?_ _));exact BK103.out⟩,⟨by repeat (first | (with_reducible first | exact HB.out | apply qj | apply qz | apply qk | refine qx ?_ GE101.out | refine qx ?_ GE103.out) | exact HB.out)⟩⟩
          ·replace c25 := Bool.eq_false_iff.mpr c25
           subst c25
           have H1 : (vv.j2 k2 l0_0 (l0_0.length : Int) x38_2 true l0_0 l0_1 a0_2 a0_3 ((vq l0_0 x38_2).f0) ((vq l0_0 x38_2).f1) ((vq l0_0 x38_2).f2) ((vq l0_0 x38_2).f3) ((vq l0_0 x38_2).f4)) = some r := by rw [if_neg (show ¬ (false = true) by decide)] at H;exact H
           clear H
           have H := H1
           clear H1
           have H' := qq.mk H
           clear H
           try go_wp2
           have n0_ : qq ((((((w21.setCell ⟨gb103,0,none⟩ (.string ((vq l0_0 x38_2).f0))).setCell ⟨gb103,1,none⟩ (.slice A102_1 ((vq l0_0 x38_2).f1).length c102_1)).setCell ⟨gb103,2,none⟩ (.slice A102_2 ((vq l0_0 x38_2).f2).length c102_2)).setCell ⟨gb103,3,none⟩ (.slice A102_3 ((vq l0_0 x38_2).f3).length c102_3)).setCell ⟨gb103,4,none⟩ (.slice A102_4 ((vq l0_0 x38_2).f4).length c102_4)).heap[gb101]? = some (.cells #[.slice (some ad102) l0_0.length c0_0,.slice A0_1 l0_1.length c0_1,.int .i64 a0_2,.int .i64 a0_3] 45 (0,0))) := ⟨by (with_reducible repeat (first | refine zz ?_ _ | refine zj ?_ | refine zq ?_ _));refine blk_far ?_ NB101_103.out _;(with_reducible repeat (first | refine zz ?_ _ | refine zj ?_ | refine zq ?_ _));refine blk_far ?_ NB101_103.out _;(with_reducible repeat (first | refine zz ?_ _ | refine zj ?_ | refine zq ?_ _));refine blk_far ?_ NB101_103.out _;(with_reducible repeat (first | refine zz ?_ _ | refine zj ?_ | refine zq ?_ _));refine blk_far ?_ NB101_103.out _;(with_reducible repeat (first | refine zz ?_ _ | refine zj ?_ | refine zq ?_ _));refine blk_far ?_ NB101_103.out _;(with_reducible repeat (first | refine zz ?_ _ | refine zj ?_ | refine zq ?_ _));exact BK101.out⟩
           have n1_ : qq ((((((w21.setCell ⟨gb103,0,none⟩ (.string ((vq l0_0 x38_2).f0))).setCell ⟨gb103,1,none⟩ (.slice A102_1 ((vq l0_0 x38_2).f1).length c102_1)).setCell ⟨gb103,2,none⟩ (.slice A102_2 ((vq l0_0 x38_2).f2).length c102_2)).setCell ⟨gb103,3,none⟩ (.slice A102_3 ((vq l0_0 x38_2).f3).length c102_3)).setCell ⟨gb103,4,none⟩ (.slice A102_4 ((vq l0_0 x38_2).f4).length c102_4)).heap[gb103]? = some (.cells #[.string ((vq l0_0 x38_2).f0),.slice A102_1 ((vq l0_0 x38_2).f1).length c102_1,.slice A102_2 ((vq l0_0 x38_2).f2).length c102_2,.slice A102_3 ((vq l0_0 x38_2).f3).length c102_3,.slice A102_4 ((vq l0_0 x38_2).f4).length c102_4] 77 (0,0))) := ⟨by (with_reducible repeat (first | refine zz ?_ _ | refine zj ?_ | refine zq ?_ _));refine blk_put (cs := #[.string ((vq l0_0 x38_2).f0),.slice A102_1 ((vq l0_0 x38_2).f1).length c102_1,.slice A102_2 ((vq l0_0 x38_2).f2).length c102_2,.slice A102_3 ((vq l0_0 x38_2).f3).length c102_3,.slice none 0 0]) ?_ 4 _ rfl;(with_reducible repeat (first | refine zz ?_ _ | refine zj ?_ | refine zq ?_ _));refine blk_put (cs := #[.string ((vq l0_0 x38_2).f0),.slice A102_1 ((vq l0_0 x38_2).f1).length c102_1,.slice A102_2 ((vq l0_0 x38_2).f2).length c102_2,.slice none 0 0,.slice none 0 0]) ?_ 3 _ rfl;(with_reducible repeat (first | refine zz ?_ _ | refine zj ?_ | refine zq ?_ _));refine blk_put (cs := #[.string ((vq l0_0 x38_2).f0),.slice A102_1 ((vq l0_0 x38_2).f1).length c102_1,.slice none 0 0,.slice none 0 0,.slice none 0 0]) ?_ 2 _ rfl;(with_reducible repeat (first | refine zz ?_ _ | refine zj ?_ | refine zq ?_ _));refine blk_put (cs := #[.string ((vq l0_0 x38_2).f0),.slice none 0 0,.slice none 0 0,.slice none 0 0,.slice none 0 0]) ?_ 1 _ rfl;(with_reducible repeat (first | refine zz ?_ _ | refine zj ?_ | refine zq ?_ _));refine blk_put (cs := #[.string (⟨#[]⟩ : ByteArray),.slice none 0 0,.slice none 0 0,.slice none 0 0,.slice none 0 0]) ?_ 0 _ rfl;(with_reducible repeat (first | refine zz ?_ _ | refine zj ?_ | refine zq ?_ _));exact BK103.out⟩
           have n2_ : qq (Below w.heap.size w (((((w21.setCell ⟨gb103,0,none⟩ (.string ((vq l0_0 x38_2).f0))).setCell ⟨gb103,1,none⟩ (.slice A102_1 ((vq l0_0 x38_2).f1).length c102_1)).setCell ⟨gb103,2,none⟩ (.slice A102_2 ((vq l0_0 x38_2).f2).length c102_2)).setCell ⟨gb103,3,none⟩ (.slice A102_3 ((vq l0_0 x38_2).f3).length c102_3)).setCell ⟨gb103,4,none⟩ (.slice A102_4 ((vq l0_0 x38_2).f4).length c102_4))) := ⟨by repeat (first | (with_reducible first | exact HB.out | apply qj | apply qz | apply qk | refine qx ?_ GE101.out | refine qx ?_ GE103.out) | exact HB.out)⟩
           (try clear BK101)
           (try clear BK103)
           (try clear HB)
           generalize (((((w21.setCell ⟨gb103,0,none⟩ (.string ((vq l0_0 x38_2).f0))).setCell ⟨gb103,1,none⟩ (.slice A102_1 ((vq l0_0 x38_2).f1).length c102_1)).setCell ⟨gb103,2,none⟩ (.slice A102_2 ((vq l0_0 x38_2).f2).length c102_2)).setCell ⟨gb103,3,none⟩ (.slice A102_3 ((vq l0_0 x38_2).f3).length c102_3)).setCell ⟨gb103,4,none⟩ (.slice A102_4 ((vq l0_0 x38_2).f4).length c102_4)) = w77 at n0_ n1_ n2_ ⊢
           have BK101 := n0_
           have BK103 := n1_
           have HB := n2_
           clear n0_ n1_ n2_
           have hS_ := (show (fun w' => w'.cell? ⟨gb103,0,none⟩ = some (.string ((vq l0_0 x38_2).f0)) ∧ w'.cell? ⟨gb103,1,none⟩ = some (.slice A102_1 ((vq l0_0 x38_2).f1).length c102_1) ∧ w'.cell? ⟨gb103,2,none⟩ = some (.slice A102_2 ((vq l0_0 x38_2).f2).length c102_2) ∧ w'.cell? ⟨gb103,3,none⟩ = some (.slice A102_3 ((vq l0_0 x38_2).f3).length c102_3) ∧ w'.cell? ⟨gb103,4,none⟩ = some (.slice A102_4 ((vq l0_0 x38_2).f4).length c102_4)) (w77) from ⟨(qw BK103.out 0).trans rfl,(qw BK103.out 1).trans rfl,(qw BK103.out 2).trans rfl,(qw BK103.out 3).trans rfl,(qw BK103.out 4).trans rfl⟩)
           obtain ⟨hS0_,hS1_,hS2_,hS3_,hS4_⟩ := hS_
           go_quiet ((first | (go_at_call 40;exact Calls.quiet_of ((wv.calls k2 ((vq l0_0 x38_2).f0) false _ A24.out).mono fun _ _ h => ⟨h.1,h.2.out⟩))))
           clear hS0_ hS1_ hS2_ hS3_ hS4_
           have n0_ := qq.mk (zz BK101.out nq)
           have n1_ := qq.mk (zz BK103.out nq)
           have n2_ := qq.mk (qz HB.out nq)
           clear BK101
           clear BK103
           clear HB
           have BK101 := n0_
           have BK103 := n1_
           have HB := n2_
           clear n0_ n1_ n2_
           generalize World.drewN w77 nq = w78 at BK101 BK103 HB ⊢
           try go_wp2
           go_meet
           case rel => exact ⟨_,(true),(by first | rfl | (simp;done) | (simp [*];done)),H',⟨by have := HJ1.out;have := HK2.out;first | omega | exact Nat.le_refl _⟩,⟨by (with_reducible repeat (first | refine zz ?_ _ | refine zj ?_ | refine zq ?_ _));exact BK101.out⟩,⟨by (with_reducible repeat (first | refine zz ?_ _ | refine zj ?_ | refine zq ?_ _));exact BK103.out⟩,⟨by repeat (first | (with_reducible first | exact HB.out | apply qj | apply qz | apply qk | refine qx ?_ GE101.out | refine qx ?_ GE103.out) | exact HB.out)⟩⟩
         case rest =>
          clear HC20
          try clear c1
          try clear c2
          try clear p2
          try clear c4
          try clear c10
          try clear c25
          try clear c40
          obtain ⟨kq,x92_19,rfl,HA,HJ19,BK101,BK103,HB⟩ := hcut
          cases kq with
          | zero => exact absurd HA.out (by simp [vv.j2])
          | succ kj19 =>
           have H := HA.out
           clear HA
           simp only [vv.j2] at H
           by_cases c79 : x92_19 = true
           ·subst c79
            have H1 : (some false) = some r := by rw [if_pos rfl] at H;exact H
            clear H
            have H := H1
            clear H1
            obtain rfl := Option.some.inj H
            go_wp2
            go_ret
            exact ⟨by first | rfl | (simp [*,jk,jj] <;> rfl),by repeat (first | (with_reducible first | exact HB.out | apply qj | apply qz | apply qk | refine qx ?_ GE101.out | refine qx ?_ GE103.out) | exact HB.out)⟩
           ·replace c79 := Bool.eq_false_iff.mpr c79
            subst c79
            have H1 : ((has_impl_GoodServer_1.f kj19 ((vq l0_0 x38_2).f2)).bind fun t110 => (if t110 = true then (some false) else ((has_impl_GoodServer_2.f kj19 ((vq l0_0 x38_2).f4)).bind fun t111 => (if t111 = true then (some false) else (vv.l0 kj19 l0_0 (l0_0.length : Int) (wrap64 (x38_2 + 1)) l0_0 l0_1 a0_2 a0_3))))) = some r := by rw [if_neg (show ¬ (false = true) by decide)] at H;exact H
            clear H
            have H := H1
            clear H1
            replace H := Option.bind_eq_some_iff.mp H
            obtain ⟨t110,A800,H⟩ := H
            replace H : (if t110 = true then (some false) else ((has_impl_GoodServer_2.f kj19 ((vq l0_0 x38_2).f4)).bind fun t111 => (if t111 = true then (some false) else (vv.l0 kj19 l0_0 (l0_0.length : Int) (wrap64 (x38_2 + 1)) l0_0 l0_1 a0_2 a0_3)))) = some r := H
            have A80 := qq.mk A800
            clear A800
            by_cases c81 : t110 = true
            ·subst c81
             have H1 : (some false) = some r := by rw [if_pos rfl] at H;exact H
             clear H
             have H := H1
             clear H1
             obtain rfl := Option.some.inj H
             have hnb82 := NB103_101.out
             have hnc82 := NB101_103.out
             have hcz83_0 : wc.cell? ⟨gb103,0,none⟩ = some (.string ((vq l0_0 x38_2).f0)) := (qw BK103.out 0).trans rfl
             have hcz83_1 : wc.cell? ⟨gb103,1,none⟩ = some (.slice A102_1 ((vq l0_0 x38_2).f1).length c102_1) := (qw BK103.out 1).trans rfl
             have hcz83_2 : wc.cell? ⟨gb103,2,none⟩ = some (.slice A102_2 ((vq l0_0 x38_2).f2).length c102_2) := (qw BK103.out 2).trans rfl
             have hcz83_3 : wc.cell? ⟨gb103,3,none⟩ = some (.slice A102_3 ((vq l0_0 x38_2).f3).length c102_3) := (qw BK103.out 3).trans rfl
             have hcz83_4 : wc.cell? ⟨gb103,4,none⟩ = some (.slice A102_4 ((vq l0_0 x38_2).f4).length c102_4) := (qw BK103.out 4).trans rfl
             have hfz83_0 := qv BK103.out 0
             have hfz83_1 := qv BK103.out 1
             have hfz83_2 := qv BK103.out 2
             have hfz83_3 := qv BK103.out 3
             have hfz83_4 := qv BK103.out 4
             go_wp2_with (first | ((with_reducible refine jv (f := 48) rfl ?_);refine goesL_ (some 95) rfl rfl Try.func48 (by kernel_rfl) rfl #[.slice A102_2 ((vq l0_0 x38_2).f2).length c102_2,.func (.func 49) #[] #[]] rfl (by (try simp only [List.map_toArray,List.map_cons,List.map_nil]);first | done | rfl | (simp only [List.length_drop,List.length_take];rfl)) ?_;(with_reducible refine (has_impl_GoodServer_1.calls kj19 _ _ ((vq l0_0 x38_2).f2) true _ ?side1 ?side2 A80.out).mono ?_);(case side1 => repeat (first | exact (Kd.C_below HR102_2.out HB.out) | (with_reducible refine Kd.C_alloc ?_ _) | (with_reducible refine Kd.C_drewN ?_ _) | (with_reducible refine Kd.C_drew ?_)));(case side2 => exact HC102_2.out);rintro e w' ⟨rfl,⟨nd,rfl⟩⟩;refine ⟨_,rfl,?_⟩))
             go_ret
             exact ⟨by first | rfl | (simp [*,jk,jj] <;> rfl),by repeat (first | (with_reducible first | exact HB.out | apply qj | apply qz | apply qk | refine qx ?_ GE101.out | refine qx ?_ GE103.out) | exact HB.out)⟩
            ·replace c81 := Bool.eq_false_iff.mpr c81
             subst c81
             have H1 : ((has_impl_GoodServer_2.f kj19 ((vq l0_0 x38_2).f4)).bind fun t111 => (if t111 = true then (some false) else (vv.l0 kj19 l0_0 (l0_0.length : Int) (wrap64 (x38_2 + 1)) l0_0 l0_1 a0_2 a0_3))) = some r := by rw [if_neg (show ¬ (false = true) by decide)] at H;exact H
             clear H
             have H := H1
             clear H1
             replace H := Option.bind_eq_some_iff.mp H
             obtain ⟨t111,A840,H⟩ := H
             replace H : (if t111 = true then (some false) else (vv.l0 kj19 l0_0 (l0_0.length : Int) (wrap64 (x38_2 + 1)) l0_0 l0_1 a0_2 a0_3)) = some r := H
             have A84 := qq.mk A840
             clear A840
             by_cases c85 : t111 = true
             ·subst c85
              have H1 : (some false) = some r := by rw [if_pos rfl] at H;exact H
              clear H
              have H := H1
              clear H1
              obtain rfl := Option.some.inj H
              have hnb86 := NB103_101.out
              have hnc86 := NB101_103.out
              have hcz87_0 : wc.cell? ⟨gb103,0,none⟩ = some (.string ((vq l0_0 x38_2).f0)) := (qw BK103.out 0).trans rfl
              have hcz87_1 : wc.cell? ⟨gb103,1,none⟩ = some (.slice A102_1 ((vq l0_0 x38_2).f1).length c102_1) := (qw BK103.out 1).trans rfl
              have hcz87_2 : wc.cell? ⟨gb103,2,none⟩ = some (.slice A102_2 ((vq l0_0 x38_2).f2).length c102_2) := (qw BK103.out 2).trans rfl
              have hcz87_3 : wc.cell? ⟨gb103,3,none⟩ = some (.slice A102_3 ((vq l0_0 x38_2).f3).length c102_3) := (qw BK103.out 3).trans rfl
              have hcz87_4 : wc.cell? ⟨gb103,4,none⟩ = some (.slice A102_4 ((vq l0_0 x38_2).f4).length c102_4) := (qw BK103.out 4).trans rfl
              have hfz87_0 := qv BK103.out 0
              have hfz87_1 := qv BK103.out 1
              have hfz87_2 := qv BK103.out 2
              have hfz87_3 := qv BK103.out 3
              have hfz87_4 := qv BK103.out 4
              go_wp2_with (first | ((with_reducible refine jv (f := 48) rfl ?_);refine goesL_ (some 95) rfl rfl Try.func48 (by kernel_rfl) rfl #[.slice A102_2 ((vq l0_0 x38_2).f2).length c102_2,.func (.func 49) #[] #[]] rfl (by (try simp only [List.map_toArray,List.map_cons,List.map_nil]);first | done | rfl | (simp only [List.length_drop,List.length_take];rfl)) ?_;(with_reducible refine (has_impl_GoodServer_1.calls kj19 _ _ ((vq l0_0 x38_2).f2) false _ ?side1 ?side2 A80.out).mono ?_);(case side1 => repeat (first | exact (Kd.C_below HR102_2.out HB.out) | (with_reducible refine Kd.C_alloc ?_ _) | (with_reducible refine Kd.C_drewN ?_ _) | (with_reducible refine Kd.C_drew ?_)));(case side2 => exact HC102_2.out);rintro e w' ⟨rfl,⟨nd,rfl⟩⟩;refine ⟨_,rfl,?_⟩) | (go_at_call 51;(with_reducible refine (has_impl_GoodServer_2.calls kj19 _ _ ((vq l0_0 x38_2).f4) true _ ?side1 ?side2 A84.out).mono ?_);(case side1 => repeat (first | exact (Kd.C_below HR102_4.out (by repeat (first | (with_reducible first | exact HB.out | apply qj | apply qz | apply qk | refine qx ?_ GE101.out | refine qx ?_ GE103.out) | exact HB.out))) | (with_reducible refine Kd.C_alloc ?_ _) | (with_reducible refine Kd.C_drewN ?_ _) | (with_reducible refine Kd.C_drew ?_)));(case side2 => exact HC102_4.out);rintro e w' ⟨rfl,⟨nd,rfl⟩⟩))
              go_ret
              exact ⟨by first | rfl | (simp [*,jk,jj] <;> rfl),by repeat (first | (with_reducible first | exact HB.out | apply qj | apply qz | apply qk | refine qx ?_ GE101.out | refine qx ?_ GE103.out) | exact HB.out)⟩
             ·replace c85 := Bool.eq_false_iff.mpr c85
              subst c85
              have H1 : (vv.l0 kj19 l0_0 (l0_0.length : Int) (wrap64 (x38_2 + 1)) l0_0 l0_1 a0_2 a0_3) = some r := by rw [if_neg (show ¬ (false = true) by decide)] at H;exact H
              clear H
              have H := H1
              clear H1
              have H' := qq.mk H
              clear H
              have hnb88 := NB103_101.out
              have hnc88 := NB101_103.out
              have hcz89_0 : wc.cell? ⟨gb103,0,none⟩ = some (.string ((vq l0_0 x38_2).f0)) := (qw BK103.out 0).trans rfl
              have hcz89_1 : wc.cell? ⟨gb103,1,none⟩ = some (.slice A102_1 ((vq l0_0 x38_2).f1).length c102_1) := (qw BK103.out 1).trans rfl
              have hcz89_2 : wc.cell? ⟨gb103,2,none⟩ = some (.slice A102_2 ((vq l0_0 x38_2).f2).length c102_2) := (qw BK103.out 2).trans rfl
              have hcz89_3 : wc.cell? ⟨gb103,3,none⟩ = some (.slice A102_3 ((vq l0_0 x38_2).f3).length c102_3) := (qw BK103.out 3).trans rfl
              have hcz89_4 : wc.cell? ⟨gb103,4,none⟩ = some (.slice A102_4 ((vq l0_0 x38_2).f4).length c102_4) := (qw BK103.out 4).trans rfl
              have hfz89_0 := qv BK103.out 0
              have hfz89_1 := qv BK103.out 1
              have hfz89_2 := qv BK103.out 2
              have hfz89_3 := qv BK103.out 3
              have hfz89_4 := qv BK103.out 4
              go_wp2_with (first | ((with_reducible refine jv (f := 48) rfl ?_);refine goesL_ (some 95) rfl rfl Try.func48 (by kernel_rfl) rfl #[.slice A102_2 ((vq l0_0 x38_2).f2).length c102_2,.func (.func 49) #[] #[]] rfl (by (try simp only [List.map_toArray,List.map_cons,List.map_nil]);first | done | rfl | (simp only [List.length_drop,List.length_take];rfl)) ?_;(with_reducible refine (has_impl_GoodServer_1.calls kj19 _ _ ((vq l0_0 x38_2).f2) false _ ?side1 ?side2 A80.out).mono ?_);(case side1 => repeat (first | exact (Kd.C_below HR102_2.out HB.out) | (with_reducible refine Kd.C_alloc ?_ _) | (with_reducible refine Kd.C_drewN ?_ _) | (with_reducible refine Kd.C_drew ?_)));(case side2 => exact HC102_2.out);rintro e w' ⟨rfl,⟨nd,rfl⟩⟩;refine ⟨_,rfl,?_⟩) | (go_at_call 51;(with_reducible refine (has_impl_GoodServer_2.calls kj19 _ _ ((vq l0_0 x38_2).f4) false _ ?side1 ?side2 A84.out).mono ?_);(case side1 => repeat (first | exact (Kd.C_below HR102_4.out (by repeat (first | (with_reducible first | exact HB.out | apply qj | apply qz | apply qk | refine qx ?_ GE101.out | refine qx ?_ GE103.out) | exact HB.out))) | (with_reducible refine Kd.C_alloc ?_ _) | (with_reducible refine Kd.C_drewN ?_ _) | (with_reducible refine Kd.C_drew ?_)));(case side2 => exact HC102_4.out);rintro e w' ⟨rfl,⟨nd,rfl⟩⟩))
              go_roundg kj19
              case measure => have := HJ1.out;have := HK2.out;have := HJ19.out;omega
              case rel => exact ⟨(wrap64 (x38_2 + 1)),(by first | rfl | (simp;done) | (simp [*];done)),H',⟨by have := HJ1.out;have := HK2.out;have := HJ19.out;omega⟩,⟨by (with_reducible repeat (first | refine zz ?_ _ | refine zj ?_ | refine zq ?_ _));exact BK101.out⟩,⟨by repeat (first | (with_reducible first | exact HB.out | apply qj | apply qz | apply qk | refine qx ?_ GE101.out | refine qx ?_ GE103.out) | exact HB.out)⟩⟩
        ·rw [if_neg c19] at H
         exact absurd H (by simp)
       ·rw [if_neg c18] at H
        exact absurd H (by simp)
      ·rw [if_neg c17] at H
       have c17b0 : decide (x38_2 < (l0_0.length : Int)) = false := decide_eq_false c17
       clear c17
       obtain rfl := Option.some.inj H
       go_wp2
       go_ret
       exact ⟨by first | rfl | (simp [*,jk,jj] <;> rfl),by repeat (first | (with_reducible first | exact HB.out | apply qj | apply qz | apply qk | refine qx ?_ GE101.out) | exact HB.out)⟩
end Go.Proofs.Ytakocdkcfjkmdaa.Pr
namespace Go.Proofs.Ytakocdkcfjkmdaa.Pr
open Go.RowKit Go.Proofs.YtakocdkcfjkmdaaW.PrintWords Go.Proofs.YtakocdkcfjkmdaaW.PrintLast Go.Proofs.YtakocdkcfjkmdaaW.PrintMore
attribute [local go_sem] max2_int min2_int max_two min_two max_three min_three max_four min_four
set_option linter.unusedVariables false
set_option linter.unusedSimpArgs false
def qqj.f (l0 : List Int) (a1 : Int) : Option (Int) := if (wrap64 (a1 - (l0.length : Int))) < 0 then (some (-1)) else (some (wrap64 (a1 - (l0.length : Int))))
set_option maxHeartbeats 8000000 in
set_option maxRecDepth 100000 in
theorem qqj.calls (A0 : Option Addr) (c0 : Nat) (l0 : List Int) (a1 : Int) (r : Int) (w : World) (hr0 : Kd.C (Kd.int .u8) w A0 l0.length l0) (hc0 : l0.length ≤ c0) (h : qqj.f l0 a1 = some r) :
  Calls Try.prog 34 #[.slice A0 l0.length c0,.int .i64 a1] w fun e w' => e = .returned (.int .i64 r) ∧ Drawn0 w w' := by
 have HR0 := qq.mk hr0
 have HC0 := qq.mk hc0
 clear hr0 hc0
 have H : (if (wrap64 (a1 - (l0.length : Int))) < 0 then (some (-1)) else (some (wrap64 (a1 - (l0.length : Int))))) = some r := h
 clear h
 by_cases c3 : (wrap64 (a1 - (l0.length : Int))) < 0
 ·rw [if_pos c3] at H
  have c3b0 : decide ((wrap64 (a1 - (l0.length : Int))) < 0) = true := decide_eq_true c3
  clear c3
  obtain rfl := Option.some.inj H
  go_enter Try.func34,Try.ntmps34
  go_wp2
  go_ret
  exact ⟨by first | rfl | (simp;done) | (simp [*];done),by repeat (first | exact Drawn0.refl _ | apply Drawn0.step)⟩
 ·rw [if_neg c3] at H
  have c3b0 : decide ((wrap64 (a1 - (l0.length : Int))) < 0) = false := decide_eq_false c3
  clear c3
  obtain rfl := Option.some.inj H
  go_enter Try.func34,Try.ntmps34
  go_wp2
  go_ret
  exact ⟨by first | rfl | (simp;done) | (simp [*];done),by repeat (first | exact Drawn0.refl _ | apply Drawn0.step)⟩
def qzz.l0 : Nat → List Int → List Int → Int → Option (List Int)
 | 0,_,_,_ => none
 | k + 1,x0,x3,x4 => if x4 < (x0.length : Int) then (if 0 ≤ x4 then (if x4 < (x3.length : Int) then (qzz.l0 k x0 (x3.set (x4 : Int).toNat (rd x0 x4)) (wrap64 (x4 + 1))) else (none)) else (none)) else (some x3)
def qzz.f (k : Nat) (l0 : List Int) : Option (List Int) := if 0 ≤ (l0.length : Int) then (if ((l0.length : Int) : Int).toNat ≤ 281474976710656 then (qzz.l0 k l0 (List.replicate ((l0.length : Int) : Int).toNat 0) 0) else (none)) else (none)
set_option maxHeartbeats 8000000 in
set_option maxRecDepth 100000 in
theorem qzz.calls (k : Nat) (A0 : Option Addr) (c0 : Nat) (l0 : List Int) (r : List Int) (w : World) (hr0 : Kd.C (Kd.int .u8) w A0 l0.length l0) (hc0 : l0.length ≤ c0) (h : qzz.f k l0 = some r) :
  Calls Try.prog 35 #[.slice A0 l0.length c0] w fun e w' => ∃ v0_ : Value,e = .returned (v0_) ∧ Kd.R (Kd.int .u8) 5 w' w.heap.size (fun _ => True) v0_ r ∧ Below w.heap.size w w' := by
 have HR0 := qq.mk hr0
 have HC0 := qq.mk hc0
 clear hr0 hc0
 have HB := qq.mk (Below.refl w.heap.size w)
 have H : (if 0 ≤ (l0.length : Int) then (if ((l0.length : Int) : Int).toNat ≤ 281474976710656 then (qzz.l0 k l0 (List.replicate ((l0.length : Int) : Int).toNat 0) 0) else (none)) else (none)) = some r := h
 clear h
 by_cases c2 : 0 ≤ (l0.length : Int)
 ·rw [if_pos c2] at H
  have c2b0 := eq_true c2
  have c2b1 : decide (0 ≤ (l0.length : Int)) = true := decide_eq_true c2
  clear c2
  by_cases c3 : ((l0.length : Int) : Int).toNat ≤ 281474976710656
  ·rw [if_pos c3] at H
   have c3b0 := eq_true c3
   have c3b1 : decide (((l0.length : Int) : Int).toNat ≤ 281474976710656) = true := decide_eq_true c3
   clear c3
   obtain ⟨y101,hy101⟩ : ∃ y_ : List Int,y_ = (List.replicate ((l0.length : Int) : Int).toNat 0) := ⟨_,rfl⟩
   replace H : (qzz.l0 k l0 y101 0) = some r := by first | (rw [hy101];with_reducible exact H) | (have H2_ := (Option.bind_some _ _).symm.trans H;rw [hy101];with_reducible exact H2_) | (have H2_ := (Option.bind_some _ _).symm.trans H;with_reducible exact H2_) | with_reducible exact H | (rw [hy101];exact H) | exact H
   have Ny101 := qq.mk hy101
   clear hy101
   have H' := qq.mk H
   clear H
   go_enter Try.func35,Try.ntmps35
   go_wp2_with (first | ((with_reducible refine gate_dst (N := 7) rfl ?_);refine Kd.R_make (Kd.int .u8) _ 5 rfl (N := 7) rfl 22 _ _ rfl (l0.length : Int) rfl rfl Try.underlying22 (.int .u8 0) 1 info5 rfl (by decide) (by omega) 0 (ok := fun _ => True) (okp := fun _ => True) rfl (fun _ hk => hk) trivial (of_decide_eq_true (by assumption)) (Nat.le_trans (Nat.mul_le_mul_right _ (of_decide_eq_true (by assumption) : (l0.length : Int).toNat ≤ 281474976710656)) (by omega)) (Below.refl _ _) (Nat.le_refl _) ?_;intro v102 w4 ho5 hb hg_ hnew_;clear hg_ hnew_;(first | rw [← Ny101.out] at ho5 | (simp only [Int.reduceToNat] at ho5;rw [← Ny101.out] at ho5));have n0_ := qq.mk (Kd.R_lower ho5 (zw (by repeat (first | (with_reducible first | exact HB.out | apply qj | apply qz | apply qk) | exact HB.out))));have n1_ := qq.mk (zv (by repeat (first | (with_reducible first | exact HB.out | apply qj | apply qz | apply qk) | exact HB.out)) hb);clear HB;have HO103 := n0_;have HB := n1_;clear n0_ n1_;clear hb ho5))
   go_loopg [4] k (fun kq v4 w' => ∃ (x3_1 : List Int) (x4_1 : Int),v4 = .int .i64 x4_1 ∧ qq (qzz.l0 kq l0 x3_1 x4_1 = some r) ∧ qq (kq ≤ k) ∧ qq (Kd.R (Kd.int .u8) 5 w' w.heap.size (fun _ => True) v102 x3_1) ∧ qq (Below w.heap.size w w'))
   case atStart => exact ⟨(y101),(0),(by first | rfl | (simp;done) | (simp [*];done)),H',⟨Nat.le_refl _⟩,⟨by (with_reducible repeat (first | apply Kd.jq | apply Kd.zx | apply Kd.jz));exact HO103.out⟩,⟨by repeat (first | (with_reducible first | exact HB.out | apply qj | apply qz | apply qk) | exact HB.out)⟩⟩
   case round =>
    clear H'
    try clear c2
    try clear c2b0
    try clear c2b1
    try clear p2
    try clear c3
    try clear c3b0
    try clear c3b1
    obtain ⟨x3_1,x4_1,rfl,HA,HK1,HO_3,HB⟩ := hrel
    cases gk with
    | zero => exact absurd HA.out (by simp [qzz.l0])
    | succ k1 =>
     have H := HA.out
     clear HA
     simp only [qzz.l0] at H
     by_cases c6 : x4_1 < (l0.length : Int)
     ·rw [if_pos c6] at H
      have c6b0 : decide (x4_1 < (l0.length : Int)) = true := decide_eq_true c6
      clear c6
      by_cases c7 : 0 ≤ x4_1
      ·rw [if_pos c7] at H
       have c7b0 : decide (0 ≤ x4_1) = true := decide_eq_true c7
       clear c7
       by_cases c8 : x4_1 < (x3_1.length : Int)
       ·rw [if_pos c8] at H
        have c8b0 : decide (x4_1 < (x3_1.length : Int)) = true := decide_eq_true c8
        clear c8
        obtain ⟨y105,hy105⟩ : ∃ y_ : List Int,y_ = (x3_1.set (x4_1 : Int).toNat (rd l0 x4_1)) := ⟨_,rfl⟩
        replace H : (qzz.l0 k1 l0 y105 (wrap64 (x4_1 + 1))) = some r := by first | (rw [hy105];with_reducible exact H) | (have H2_ := (Option.bind_some _ _).symm.trans H;rw [hy105];with_reducible exact H2_) | (have H2_ := (Option.bind_some _ _).symm.trans H;with_reducible exact H2_) | with_reducible exact H | (rw [hy105];exact H) | exact H
        have Ny105 := qq.mk hy105
        clear hy105
        have H' := qq.mk H
        clear H
        have p104 : 0 ≤ (x4_1 : Int) := of_decide_eq_true (by assumption)
        have q104 : x4_1 < (l0.length : Int) := of_decide_eq_true (by assumption)
        obtain ⟨ad104,e104,hx104_0⟩ := Kd.at_int HR0.out x4_1 p104 q104
        cases e104
        replace hx104_0 := (HB.out.cell (World.block_lt_of_cell? w _ hx104_0)).trans hx104_0
        replace p104 := eq_true p104
        replace q104 := eq_true q104
        have p9 : 0 ≤ (x4_1 : Int) := of_decide_eq_true (by assumption)
        have q9 : (x4_1 : Int) < ((x3_1.length : Int) : Int) := of_decide_eq_true (by assumption)
        obtain ⟨go9,co9,eo9,gb9,gl9,cl9,HG9⟩ := Kd.R_form HO_3.out (by omega)
        (first | cases eo9 | (injection eo9 with ea_ en_ ec_;(first | subst ea_ | (injection ea_ with ea_;subst ea_));subst ec_;clear en_))
        have GB9 := qq.mk gb9
        have GG9 := qq.mk HG9
        clear gb9 gl9 HG9
        obtain ⟨hx9_0,hf9_0⟩ := Kd.R_celln 0 HO_3.out (x4_1 : Int) p9 q9
        replace p9 := eq_true p9
        replace q9 := eq_true q9
        have HP10 := Kd.R_putg HO_3.out (x4_1 : Int) (rd l0 x4_1)
        go_wp2_with (first | ((with_reducible refine jw (t := 5) (p := 20) rfl ?_);refine jx (t := 5) (p := 20) (v := ?vo_w11) (w1 := (wr.setCell ⟨go9,(x4_1 : Int).toNat,none⟩ (.int .u8 (rd l0 x4_1)))) ?hg ?ho ?hn ?hr ?_;(case ho => rfl);(case hg => rfl);(case hn => rfl);(case hr => first | (go_simp;done) | (go_simp;rfl));intro w11 hw;have hg : wr.grownBy w11 (some go9) := (by rw [hw];exact HP10.2);have hp_ : Kd.R (Kd.int .u8) 5 w11 w.heap.size (fun _ => True) (.slice (some ⟨go9,0,none⟩) x3_1.length co9) y105 := (by rw [hw,Ny105.out];exact HP10.1);clear HP10;have n0_ := qq.mk (hp_);have n1_ := qq.mk ((by rw [hw];exact qx (HB.out) GB9.out : Below w.heap.size w w11));clear HO_3;clear HB;have HO_3 := n0_;have HB := n1_;clear n0_ n1_;clear hg hw hp_))
        go_roundg k1
        case measure => have := HK1.out;omega
        case rel => exact ⟨(y105),(wrap64 (x4_1 + 1)),(by first | rfl | (simp;done) | (simp [*];done)),H',⟨by have := HK1.out;omega⟩,⟨by (with_reducible repeat (first | apply Kd.jq | apply Kd.zx | apply Kd.jz));exact HO_3.out⟩,⟨by repeat (first | (with_reducible first | exact HB.out | apply qj | apply qz | apply qk) | exact HB.out)⟩⟩
       ·rw [if_neg c8] at H
        exact absurd H (by simp)
      ·rw [if_neg c7] at H
       exact absurd H (by simp)
     ·rw [if_neg c6] at H
      have c6b0 : decide (x4_1 < (l0.length : Int)) = false := decide_eq_false c6
      clear c6
      obtain rfl := Option.some.inj H
      go_wp2
      go_ret
      exact ⟨_,by first | rfl | (simp [*,jk,jj] <;> rfl),by (with_reducible repeat (first | apply Kd.jq | apply Kd.zx | apply Kd.jz));exact HO_3.out,by repeat (first | (with_reducible first | exact HB.out | apply qj | apply qz | apply qk) | exact HB.out)⟩
  ·rw [if_neg c3] at H
   exact absurd H (by simp)
 ·rw [if_neg c2] at H
  exact absurd H (by simp)
def xk.l0 : Nat → List Int → List Int → Int → Option (Bool)
 | 0,_,_,_ => none
 | k + 1,x0,x1,x5 => if x5 < (x0.length : Int) then (if 0 ≤ x5 then (if x5 < (x1.length : Int) then (if (rd x0 x5) = (rd x1 x5) then (xk.l0 k x0 x1 (wrap64 (x5 + 1))) else (some false)) else (none)) else (none)) else (some true)
def xk.f (k : Nat) (l0 : List Int) (l1 : List Int) : Option (Bool) := if (l0.length : Int) = (l1.length : Int) then (xk.l0 k l0 l1 0) else (some false)
set_option maxHeartbeats 8000000 in
set_option maxRecDepth 100000 in
theorem xk.calls (k : Nat) (A0 : Option Addr) (c0 : Nat) (l0 : List Int) (A1 : Option Addr) (c1 : Nat) (l1 : List Int) (r : Bool) (w : World) (hr0 : Kd.C (Kd.int .u8) w A0 l0.length l0) (hc0 : l0.length ≤ c0) (hr1 : Kd.C (Kd.int .u8) w A1 l1.length l1) (hc1 : l1.length ≤ c1) (h : xk.f k l0 l1 = some r) :
  Calls Try.prog 36 #[.slice A0 l0.length c0,.slice A1 l1.length c1] w fun e w' => e = .returned (.bool r) ∧ Drawn0 w w' := by
 have HR0 := qq.mk hr0
 have HC0 := qq.mk hc0
 clear hr0 hc0
 have HR1 := qq.mk hr1
 have HC1 := qq.mk hc1
 clear hr1 hc1
 have H : (if (l0.length : Int) = (l1.length : Int) then (xk.l0 k l0 l1 0) else (some false)) = some r := h
 clear h
 by_cases c3 : (l0.length : Int) = (l1.length : Int)
 ·rw [if_pos c3] at H
  have c3b0 : ((l0.length : Int) == (l1.length : Int)) = true := beq_iff_eq.mpr c3
  have c3b1 : ((l0.length : Int) != (l1.length : Int)) = false := bne_eq_false_iff_eq.mpr c3
  have c3b2 : (l0.length == l1.length) = true := by first | simpa using c3 | (simp at c3 ⊢;omega)
  clear c3
  have H' := qq.mk H
  clear H
  go_enter Try.func36,Try.ntmps36
  go_wp2
  repeat (go_quiet (fail);try go_wp2)
  go_loopg [5] k (fun kq v5 w' => ∃ (x5_1 : Int),v5 = .int .i64 x5_1 ∧ qq (xk.l0 kq l0 l1 x5_1 = some r) ∧ qq (kq ≤ k) ∧ Drawn0 w w')
  case atStart => exact ⟨(0),(by first | rfl | (simp;done) | (simp [*];done)),H',⟨Nat.le_refl _⟩,by repeat (first | exact Drawn0.refl _ | apply Drawn0.step)⟩
  case round =>
   clear H'
   try clear c1
   try clear p2
   try clear c3
   try clear c3b0
   try clear c3b1
   try clear c3b2
   obtain ⟨x5_1,rfl,HA,HK1,⟨m1,rfl⟩⟩ := hrel
   cases gk with
   | zero => exact absurd HA.out (by simp [xk.l0])
   | succ k1 =>
    have H := HA.out
    clear HA
    simp only [xk.l0] at H
    by_cases c4 : x5_1 < (l0.length : Int)
    ·rw [if_pos c4] at H
     have c4b0 : decide (x5_1 < (l0.length : Int)) = true := decide_eq_true c4
     clear c4
     by_cases c5 : 0 ≤ x5_1
     ·rw [if_pos c5] at H
      have c5b0 : decide (0 ≤ x5_1) = true := decide_eq_true c5
      clear c5
      by_cases c6 : x5_1 < (l1.length : Int)
      ·rw [if_pos c6] at H
       have c6b0 : decide (x5_1 < (l1.length : Int)) = true := decide_eq_true c6
       clear c6
       by_cases c7 : (rd l0 x5_1) = (rd l1 x5_1)
       ·rw [if_pos c7] at H
        have c7b0 : ((rd l0 x5_1) == (rd l1 x5_1)) = true := beq_iff_eq.mpr c7
        have c7b1 : ((rd l0 x5_1) != (rd l1 x5_1)) = false := bne_eq_false_iff_eq.mpr c7
        clear c7
        have H' := qq.mk H
        clear H
        have p101 : 0 ≤ (x5_1 : Int) := of_decide_eq_true (by assumption)
        have q101 : x5_1 < (l0.length : Int) := of_decide_eq_true (by assumption)
        obtain ⟨ad101,e101,hx101_0⟩ := Kd.at_int HR0.out x5_1 p101 q101
        cases e101
        replace p101 := eq_true p101
        replace q101 := eq_true q101
        have p102 : 0 ≤ (x5_1 : Int) := of_decide_eq_true (by assumption)
        have q102 : x5_1 < (l1.length : Int) := of_decide_eq_true (by assumption)
        obtain ⟨ad102,e102,hx102_0⟩ := Kd.at_int HR1.out x5_1 p102 q102
        cases e102
        replace p102 := eq_true p102
        replace q102 := eq_true q102
        go_wp2
        repeat (go_quiet (fail);try go_wp2)
        go_roundg k1
        case measure => have := HK1.out;omega
        case rel => exact ⟨(wrap64 (x5_1 + 1)),(by first | rfl | (simp;done) | (simp [*];done)),H',⟨by have := HK1.out;omega⟩,by repeat (first | exact Drawn0.refl _ | apply Drawn0.step)⟩
       ·rw [if_neg c7] at H
        have c7b0 : ((rd l0 x5_1) == (rd l1 x5_1)) = false := beq_eq_false_iff_ne.mpr c7
        have c7b1 : ((rd l0 x5_1) != (rd l1 x5_1)) = true := bne_iff_ne.mpr c7
        obtain rfl := Option.some.inj H
        have p101 : 0 ≤ (x5_1 : Int) := of_decide_eq_true (by assumption)
        have q101 : x5_1 < (l0.length : Int) := of_decide_eq_true (by assumption)
        obtain ⟨ad101,e101,hx101_0⟩ := Kd.at_int HR0.out x5_1 p101 q101
        cases e101
        replace p101 := eq_true p101
        replace q101 := eq_true q101
        have p102 : 0 ≤ (x5_1 : Int) := of_decide_eq_true (by assumption)
        have q102 : x5_1 < (l1.length : Int) := of_decide_eq_true (by assumption)
        obtain ⟨ad102,e102,hx102_0⟩ := Kd.at_int HR1.out x5_1 p102 q102
        cases e102
        replace p102 := eq_true p102
        replace q102 := eq_true q102
        go_wp2
        repeat (go_quiet (fail);try go_wp2)
        go_ret
        exact ⟨by first | rfl | (simp;done) | (simp [*];done),by repeat (first | exact Drawn0.refl _ | apply Drawn0.step)⟩
      ·rw [if_neg c6] at H
       exact absurd H (by simp)
     ·rw [if_neg c5] at H
      exact absurd H (by simp)
    ·rw [if_neg c4] at H
     have c4b0 : decide (x5_1 < (l0.length : Int)) = false := decide_eq_false c4
     clear c4
     obtain rfl := Option.some.inj H
     go_wp2
     repeat (go_quiet (fail);try go_wp2)
     go_ret
     exact ⟨by first | rfl | (simp;done) | (simp [*];done),by repeat (first | exact Drawn0.refl _ | apply Drawn0.step)⟩
 ·rw [if_neg c3] at H
  have c3b0 : ((l0.length : Int) == (l1.length : Int)) = false := beq_eq_false_iff_ne.mpr c3
  have c3b1 : ((l0.length : Int) != (l1.length : Int)) = true := bne_iff_ne.mpr c3
  have c3b2 : (l0.length == l1.length) = false := by first | simpa using c3 | (simp at c3 ⊢;omega)
  obtain rfl := Option.some.inj H
  go_enter Try.func36,Try.ntmps36
  go_wp2
  repeat (go_quiet (fail);try go_wp2)
  go_ret
  exact ⟨by first | rfl | (simp;done) | (simp [*];done),by repeat (first | exact Drawn0.refl _ | apply Drawn0.step)⟩
end Go.Proofs.Ytakocdkcfjkmdaa.Pr
namespace Go.Proofs.Ytakocdkcfjkmdaa.Pr
open Go.RowKit Go.Proofs.YtakocdkcfjkmdaaW.PrintWords Go.Proofs.YtakocdkcfjkmdaaW.PrintLast Go.Proofs.YtakocdkcfjkmdaaW.PrintMore
attribute [local go_sem] max2_int min2_int max_two min_two max_three min_three max_four min_four
set_option linter.unusedVariables false
set_option linter.unusedSimpArgs false
def qqw.f (l0 : List Int) (a1 : Int) : Option (Int) := if (wrap64 (a1 - (l0.length : Int))) < 0 then (some (-1)) else (some (wrap64 (a1 - (l0.length : Int))))
set_option maxHeartbeats 8000000 in
set_option maxRecDepth 100000 in
theorem qqw.calls (A0 : Option Addr) (c0 : Nat) (l0 : List Int) (a1 : Int) (r : Int) (w : World) (hr0 : Kd.C (Kd.int .i64) w A0 l0.length l0) (hc0 : l0.length ≤ c0) (h : qqw.f l0 a1 = some r) :
  Calls Try.prog 93 #[.slice A0 l0.length c0,.int .i64 a1] w fun e w' => e = .returned (.int .i64 r) ∧ Drawn0 w w' := by
 have HR0 := qq.mk hr0
 have HC0 := qq.mk hc0
 clear hr0 hc0
 have H : (if (wrap64 (a1 - (l0.length : Int))) < 0 then (some (-1)) else (some (wrap64 (a1 - (l0.length : Int))))) = some r := h
 clear h
 by_cases c3 : (wrap64 (a1 - (l0.length : Int))) < 0
 ·rw [if_pos c3] at H
  have c3b0 : decide ((wrap64 (a1 - (l0.length : Int))) < 0) = true := decide_eq_true c3
  clear c3
  obtain rfl := Option.some.inj H
  go_enter Try.func93,Try.ntmps93
  go_wp2
  go_ret
  exact ⟨by first | rfl | (simp;done) | (simp [*];done),by repeat (first | exact Drawn0.refl _ | apply Drawn0.step)⟩
 ·rw [if_neg c3] at H
  have c3b0 : decide ((wrap64 (a1 - (l0.length : Int))) < 0) = false := decide_eq_false c3
  clear c3
  obtain rfl := Option.some.inj H
  go_enter Try.func93,Try.ntmps93
  go_wp2
  go_ret
  exact ⟨by first | rfl | (simp;done) | (simp [*];done),by repeat (first | exact Drawn0.refl _ | apply Drawn0.step)⟩
def qzv.l0 : Nat → List Int → List Int → Int → Option (List Int)
 | 0,_,_,_ => none
 | k + 1,x0,x3,x4 => if x4 < (x0.length : Int) then (if 0 ≤ x4 then (if x4 < (x3.length : Int) then (qzv.l0 k x0 (x3.set (x4 : Int).toNat (rd x0 x4)) (wrap64 (x4 + 1))) else (none)) else (none)) else (some x3)
def qzv.f (k : Nat) (l0 : List Int) : Option (List Int) := if 0 ≤ (l0.length : Int) then (if ((l0.length : Int) : Int).toNat ≤ 35184372088832 then (qzv.l0 k l0 (List.replicate ((l0.length : Int) : Int).toNat 0) 0) else (none)) else (none)
set_option maxHeartbeats 8000000 in
set_option maxRecDepth 100000 in
theorem qzv.calls (k : Nat) (A0 : Option Addr) (c0 : Nat) (l0 : List Int) (r : List Int) (w : World) (hr0 : Kd.C (Kd.int .i64) w A0 l0.length l0) (hc0 : l0.length ≤ c0) (h : qzv.f k l0 = some r) :
  Calls Try.prog 95 #[.slice A0 l0.length c0] w fun e w' => ∃ v0_ : Value,e = .returned (v0_) ∧ Kd.R (Kd.int .i64) 3 w' w.heap.size (fun _ => True) v0_ r ∧ Below w.heap.size w w' := by
 have HR0 := qq.mk hr0
 have HC0 := qq.mk hc0
 clear hr0 hc0
 have HB := qq.mk (Below.refl w.heap.size w)
 have H : (if 0 ≤ (l0.length : Int) then (if ((l0.length : Int) : Int).toNat ≤ 35184372088832 then (qzv.l0 k l0 (List.replicate ((l0.length : Int) : Int).toNat 0) 0) else (none)) else (none)) = some r := h
 clear h
 by_cases c2 : 0 ≤ (l0.length : Int)
 ·rw [if_pos c2] at H
  have c2b0 := eq_true c2
  have c2b1 : decide (0 ≤ (l0.length : Int)) = true := decide_eq_true c2
  clear c2
  by_cases c3 : ((l0.length : Int) : Int).toNat ≤ 35184372088832
  ·rw [if_pos c3] at H
   have c3b0 := eq_true c3
   have c3b1 : decide (((l0.length : Int) : Int).toNat ≤ 35184372088832) = true := decide_eq_true c3
   clear c3
   obtain ⟨y101,hy101⟩ : ∃ y_ : List Int,y_ = (List.replicate ((l0.length : Int) : Int).toNat 0) := ⟨_,rfl⟩
   replace H : (qzv.l0 k l0 y101 0) = some r := by first | (rw [hy101];with_reducible exact H) | (have H2_ := (Option.bind_some _ _).symm.trans H;rw [hy101];with_reducible exact H2_) | (have H2_ := (Option.bind_some _ _).symm.trans H;with_reducible exact H2_) | with_reducible exact H | (rw [hy101];exact H) | exact H
   have Ny101 := qq.mk hy101
   clear hy101
   have H' := qq.mk H
   clear H
   go_enter Try.func95,Try.ntmps95
   go_wp2_with (first | ((with_reducible refine gate_dst (N := 7) rfl ?_);refine Kd.R_make (Kd.int .i64) _ 3 rfl (N := 7) rfl 75 _ _ rfl (l0.length : Int) rfl rfl Try.underlying75 (.int .i64 0) 8 info3 rfl (by decide) (by omega) 0 (ok := fun _ => True) (okp := fun _ => True) rfl (fun _ hk => hk) trivial (of_decide_eq_true (by assumption)) (Nat.le_trans (Nat.mul_le_mul_right _ (of_decide_eq_true (by assumption) : (l0.length : Int).toNat ≤ 35184372088832)) (by omega)) (Below.refl _ _) (Nat.le_refl _) ?_;intro v102 w4 ho5 hb hg_ hnew_;clear hg_ hnew_;(first | rw [← Ny101.out] at ho5 | (simp only [Int.reduceToNat] at ho5;rw [← Ny101.out] at ho5));have n0_ := qq.mk (Kd.R_lower ho5 (zw (by repeat (first | (with_reducible first | exact HB.out | apply qj | apply qz | apply qk) | exact HB.out))));have n1_ := qq.mk (zv (by repeat (first | (with_reducible first | exact HB.out | apply qj | apply qz | apply qk) | exact HB.out)) hb);clear HB;have HO103 := n0_;have HB := n1_;clear n0_ n1_;clear hb ho5))
   go_loopg [4] k (fun kq v4 w' => ∃ (x3_1 : List Int) (x4_1 : Int),v4 = .int .i64 x4_1 ∧ qq (qzv.l0 kq l0 x3_1 x4_1 = some r) ∧ qq (kq ≤ k) ∧ qq (Kd.R (Kd.int .i64) 3 w' w.heap.size (fun _ => True) v102 x3_1) ∧ qq (Below w.heap.size w w'))
   case atStart => exact ⟨(y101),(0),(by first | rfl | (simp;done) | (simp [*];done)),H',⟨Nat.le_refl _⟩,⟨by (with_reducible repeat (first | apply Kd.jq | apply Kd.zx | apply Kd.jz));exact HO103.out⟩,⟨by repeat (first | (with_reducible first | exact HB.out | apply qj | apply qz | apply qk) | exact HB.out)⟩⟩
   case round =>
    clear H'
    try clear c2
    try clear c2b0
    try clear c2b1
    try clear p2
    try clear c3
    try clear c3b0
    try clear c3b1
    obtain ⟨x3_1,x4_1,rfl,HA,HK1,HO_3,HB⟩ := hrel
    cases gk with
    | zero => exact absurd HA.out (by simp [qzv.l0])
    | succ k1 =>
     have H := HA.out
     clear HA
     simp only [qzv.l0] at H
     by_cases c6 : x4_1 < (l0.length : Int)
     ·rw [if_pos c6] at H
      have c6b0 : decide (x4_1 < (l0.length : Int)) = true := decide_eq_true c6
      clear c6
      by_cases c7 : 0 ≤ x4_1
      ·rw [if_pos c7] at H
       have c7b0 : decide (0 ≤ x4_1) = true := decide_eq_true c7
       clear c7
       by_cases c8 : x4_1 < (x3_1.length : Int)
       ·rw [if_pos c8] at H
        have c8b0 : decide (x4_1 < (x3_1.length : Int)) = true := decide_eq_true c8
        clear c8
        obtain ⟨y105,hy105⟩ : ∃ y_ : List Int,y_ = (x3_1.set (x4_1 : Int).toNat (rd l0 x4_1)) := ⟨_,rfl⟩
        replace H : (qzv.l0 k1 l0 y105 (wrap64 (x4_1 + 1))) = some r := by first | (rw [hy105];with_reducible exact H) | (have H2_ := (Option.bind_some _ _).symm.trans H;rw [hy105];with_reducible exact H2_) | (have H2_ := (Option.bind_some _ _).symm.trans H;with_reducible exact H2_) | with_reducible exact H | (rw [hy105];exact H) | exact H
        have Ny105 := qq.mk hy105
        clear hy105
        have H' := qq.mk H
        clear H
        have p104 : 0 ≤ (x4_1 : Int) := of_decide_eq_true (by assumption)
        have q104 : x4_1 < (l0.length : Int) := of_decide_eq_true (by assumption)
        obtain ⟨ad104,e104,hx104_0⟩ := Kd.at_int HR0.out x4_1 p104 q104
        cases e104
        replace hx104_0 := (HB.out.cell (World.block_lt_of_cell? w _ hx104_0)).trans hx104_0
        replace p104 := eq_true p104
        replace q104 := eq_true q104
        have p9 : 0 ≤ (x4_1 : Int) := of_decide_eq_true (by assumption)
        have q9 : (x4_1 : Int) < ((x3_1.length : Int) : Int) := of_decide_eq_true (by assumption)
        obtain ⟨go9,co9,eo9,gb9,gl9,cl9,HG9⟩ := Kd.R_form HO_3.out (by omega)
        (first | cases eo9 | (injection eo9 with ea_ en_ ec_;(first | subst ea_ | (injection ea_ with ea_;subst ea_));subst ec_;clear en_))
        have GB9 := qq.mk gb9
        have GG9 := qq.mk HG9
        clear gb9 gl9 HG9
        obtain ⟨hx9_0,hf9_0⟩ := Kd.R_celln 0 HO_3.out (x4_1 : Int) p9 q9
        replace p9 := eq_true p9
        replace q9 := eq_true q9
        have HP10 := Kd.R_putg HO_3.out (x4_1 : Int) (rd l0 x4_1)
        go_wp2_with (first | ((with_reducible refine jw (t := 3) (p := 20) rfl ?_);refine jx (t := 3) (p := 20) (v := ?vo_w11) (w1 := (wr.setCell ⟨go9,(x4_1 : Int).toNat,none⟩ (.int .i64 (rd l0 x4_1)))) ?hg ?ho ?hn ?hr ?_;(case ho => rfl);(case hg => rfl);(case hn => rfl);(case hr => first | (go_simp;done) | (go_simp;rfl));intro w11 hw;have hg : wr.grownBy w11 (some go9) := (by rw [hw];exact HP10.2);have hp_ : Kd.R (Kd.int .i64) 3 w11 w.heap.size (fun _ => True) (.slice (some ⟨go9,0,none⟩) x3_1.length co9) y105 := (by rw [hw,Ny105.out];exact HP10.1);clear HP10;have n0_ := qq.mk (hp_);have n1_ := qq.mk ((by rw [hw];exact qx (HB.out) GB9.out : Below w.heap.size w w11));clear HO_3;clear HB;have HO_3 := n0_;have HB := n1_;clear n0_ n1_;clear hg hw hp_))
        go_roundg k1
        case measure => have := HK1.out;omega
        case rel => exact ⟨(y105),(wrap64 (x4_1 + 1)),(by first | rfl | (simp;done) | (simp [*];done)),H',⟨by have := HK1.out;omega⟩,⟨by (with_reducible repeat (first | apply Kd.jq | apply Kd.zx | apply Kd.jz));exact HO_3.out⟩,⟨by repeat (first | (with_reducible first | exact HB.out | apply qj | apply qz | apply qk) | exact HB.out)⟩⟩
       ·rw [if_neg c8] at H
        exact absurd H (by simp)
      ·rw [if_neg c7] at H
       exact absurd H (by simp)
     ·rw [if_neg c6] at H
      have c6b0 : decide (x4_1 < (l0.length : Int)) = false := decide_eq_false c6
      clear c6
      obtain rfl := Option.some.inj H
      go_wp2
      go_ret
      exact ⟨_,by first | rfl | (simp [*,jk,jj] <;> rfl),by (with_reducible repeat (first | apply Kd.jq | apply Kd.zx | apply Kd.jz));exact HO_3.out,by repeat (first | (with_reducible first | exact HB.out | apply qj | apply qz | apply qk) | exact HB.out)⟩
  ·rw [if_neg c3] at H
   exact absurd H (by simp)
 ·rw [if_neg c2] at H
  exact absurd H (by simp)
def xx.l0 : Nat → List Int → List Int → Int → Option (Bool)
 | 0,_,_,_ => none
 | k + 1,x0,x1,x5 => if x5 < (x0.length : Int) then (if 0 ≤ x5 then (if x5 < (x1.length : Int) then (if (rd x0 x5) = (rd x1 x5) then (xx.l0 k x0 x1 (wrap64 (x5 + 1))) else (some false)) else (none)) else (none)) else (some true)
def xx.f (k : Nat) (l0 : List Int) (l1 : List Int) : Option (Bool) := if (l0.length : Int) = (l1.length : Int) then (xx.l0 k l0 l1 0) else (some false)
set_option maxHeartbeats 8000000 in
set_option maxRecDepth 100000 in
theorem xx.calls (k : Nat) (A0 : Option Addr) (c0 : Nat) (l0 : List Int) (A1 : Option Addr) (c1 : Nat) (l1 : List Int) (r : Bool) (w : World) (hr0 : Kd.C (Kd.int .i64) w A0 l0.length l0) (hc0 : l0.length ≤ c0) (hr1 : Kd.C (Kd.int .i64) w A1 l1.length l1) (hc1 : l1.length ≤ c1) (h : xx.f k l0 l1 = some r) :
  Calls Try.prog 99 #[.slice A0 l0.length c0,.slice A1 l1.length c1] w fun e w' => e = .returned (.bool r) ∧ Drawn0 w w' := by
 have HR0 := qq.mk hr0
 have HC0 := qq.mk hc0
 clear hr0 hc0
 have HR1 := qq.mk hr1
 have HC1 := qq.mk hc1
 clear hr1 hc1
 have H : (if (l0.length : Int) = (l1.length : Int) then (xx.l0 k l0 l1 0) else (some false)) = some r := h
 clear h
 by_cases c3 : (l0.length : Int) = (l1.length : Int)
 ·rw [if_pos c3] at H
  have c3b0 : ((l0.length : Int) == (l1.length : Int)) = true := beq_iff_eq.mpr c3
  have c3b1 : ((l0.length : Int) != (l1.length : Int)) = false := bne_eq_false_iff_eq.mpr c3
  have c3b2 : (l0.length == l1.length) = true := by first | simpa using c3 | (simp at c3 ⊢;omega)
  clear c3
  have H' := qq.mk H
  clear H
  go_enter Try.func99,Try.ntmps99
  go_wp2
  repeat (go_quiet (fail);try go_wp2)
  go_loopg [5] k (fun kq v5 w' => ∃ (x5_1 : Int),v5 = .int .i64 x5_1 ∧ qq (xx.l0 kq l0 l1 x5_1 = some r) ∧ qq (kq ≤ k) ∧ Drawn0 w w')
  case atStart => exact ⟨(0),(by first | rfl | (simp;done) | (simp [*];done)),H',⟨Nat.le_refl _⟩,by repeat (first | exact Drawn0.refl _ | apply Drawn0.step)⟩
  case round =>
   clear H'
   try clear c1
   try clear p2
   try clear c3
   try clear c3b0
   try clear c3b1
   try clear c3b2
   obtain ⟨x5_1,rfl,HA,HK1,⟨m1,rfl⟩⟩ := hrel
   cases gk with
   | zero => exact absurd HA.out (by simp [xx.l0])
   | succ k1 =>
    have H := HA.out
    clear HA
    simp only [xx.l0] at H
    by_cases c4 : x5_1 < (l0.length : Int)
    ·rw [if_pos c4] at H
     have c4b0 : decide (x5_1 < (l0.length : Int)) = true := decide_eq_true c4
     clear c4
     by_cases c5 : 0 ≤ x5_1
     ·rw [if_pos c5] at H
      have c5b0 : decide (0 ≤ x5_1) = true := decide_eq_true c5
      clear c5
      by_cases c6 : x5_1 < (l1.length : Int)
      ·rw [if_pos c6] at H
       have c6b0 : decide (x5_1 < (l1.length : Int)) = true := decide_eq_true c6
       clear c6
       by_cases c7 : (rd l0 x5_1) = (rd l1 x5_1)
       ·rw [if_pos c7] at H
        have c7b0 : ((rd l0 x5_1) == (rd l1 x5_1)) = true := beq_iff_eq.mpr c7
        have c7b1 : ((rd l0 x5_1) != (rd l1 x5_1)) = false := bne_eq_false_iff_eq.mpr c7
        clear c7
        have H' := qq.mk H
        clear H
        have p101 : 0 ≤ (x5_1 : Int) := of_decide_eq_true (by assumption)
        have q101 : x5_1 < (l0.length : Int) := of_decide_eq_true (by assumption)
        obtain ⟨ad101,e101,hx101_0⟩ := Kd.at_int HR0.out x5_1 p101 q101
        cases e101
        replace p101 := eq_true p101
        replace q101 := eq_true q101
        have p102 : 0 ≤ (x5_1 : Int) := of_decide_eq_true (by assumption)
        have q102 : x5_1 < (l1.length : Int) := of_decide_eq_true (by assumption)
        obtain ⟨ad102,e102,hx102_0⟩ := Kd.at_int HR1.out x5_1 p102 q102
        cases e102
        replace p102 := eq_true p102
        replace q102 := eq_true q102
        go_wp2
        repeat (go_quiet (fail);try go_wp2)
        go_roundg k1
        case measure => have := HK1.out;omega
        case rel => exact ⟨(wrap64 (x5_1 + 1)),(by first | rfl | (simp;done) | (simp [*];done)),H',⟨by have := HK1.out;omega⟩,by repeat (first | exact Drawn0.refl _ | apply Drawn0.step)⟩
       ·rw [if_neg c7] at H
        have c7b0 : ((rd l0 x5_1) == (rd l1 x5_1)) = false := beq_eq_false_iff_ne.mpr c7
        have c7b1 : ((rd l0 x5_1) != (rd l1 x5_1)) = true := bne_iff_ne.mpr c7
        obtain rfl := Option.some.inj H
        have p101 : 0 ≤ (x5_1 : Int) := of_decide_eq_true (by assumption)
        have q101 : x5_1 < (l0.length : Int) := of_decide_eq_true (by assumption)
        obtain ⟨ad101,e101,hx101_0⟩ := Kd.at_int HR0.out x5_1 p101 q101
        cases e101
        replace p101 := eq_true p101
        replace q101 := eq_true q101
        have p102 : 0 ≤ (x5_1 : Int) := of_decide_eq_true (by assumption)
        have q102 : x5_1 < (l1.length : Int) := of_decide_eq_true (by assumption)
        obtain ⟨ad102,e102,hx102_0⟩ := Kd.at_int HR1.out x5_1 p102 q102
        cases e102
        replace p102 := eq_true p102
        replace q102 := eq_true q102
        go_wp2
        repeat (go_quiet (fail);try go_wp2)
        go_ret
        exact ⟨by first | rfl | (simp;done) | (simp [*];done),by repeat (first | exact Drawn0.refl _ | apply Drawn0.step)⟩
      ·rw [if_neg c6] at H
       exact absurd H (by simp)
     ·rw [if_neg c5] at H
      exact absurd H (by simp)
    ·rw [if_neg c4] at H
     have c4b0 : decide (x5_1 < (l0.length : Int)) = false := decide_eq_false c4
     clear c4
     obtain rfl := Option.some.inj H
     go_wp2
     repeat (go_quiet (fail);try go_wp2)
     go_ret
     exact ⟨by first | rfl | (simp;done) | (simp [*];done),by repeat (first | exact Drawn0.refl _ | apply Drawn0.step)⟩
 ·rw [if_neg c3] at H
  have c3b0 : ((l0.length : Int) == (l1.length : Int)) = false := beq_eq_false_iff_ne.mpr c3
  have c3b1 : ((l0.length : Int) != (l1.length : Int)) = true := bne_iff_ne.mpr c3
  have c3b2 : (l0.length == l1.length) = false := by first | simpa using c3 | (simp at c3 ⊢;omega)
  obtain rfl := Option.some.inj H
  go_enter Try.func99,Try.ntmps99
  go_wp2
  repeat (go_quiet (fail);try go_wp2)
  go_ret
  exact ⟨by first | rfl | (simp;done) | (simp [*];done),by repeat (first | exact Drawn0.refl _ | apply Drawn0.step)⟩
end Go.Proofs.Ytakocdkcfjkmdaa.Pr
namespace Go.Proofs.Ytakocdkcfjkmdaa.Pr
open Go.RowKit Go.Proofs.YtakocdkcfjkmdaaW.PrintWords Go.Proofs.YtakocdkcfjkmdaaW.PrintLast Go.Proofs.YtakocdkcfjkmdaaW.PrintMore
attribute [local go_sem] max2_int min2_int max_two min_two max_three min_three max_four min_four
set_option linter.unusedVariables false
set_option linter.unusedSimpArgs false
def qzq.l0 : Nat → List ByteArray → Int → Int → Option (Int)
 | 0,_,_,_ => none
 | k + 1,x0,x1,x5 => if x5 < (x0.length : Int) then (if 0 ≤ x5 then (if (wrap64 (x1 - ((rdOf ByteArray.empty x0 x5).size : Int))) < 0 then (some (-1)) else (qzq.l0 k x0 (wrap64 (x1 - ((rdOf ByteArray.empty x0 x5).size : Int))) (wrap64 (x5 + 1)))) else (none)) else (some x1)
def qzq.f (k : Nat) (l0 : List ByteArray) (a1 : Int) : Option (Int) := if (wrap64 (a1 - (l0.length : Int))) < 0 then (some (-1)) else (qzq.l0 k l0 (wrap64 (a1 - (l0.length : Int))) 0)
set_option maxHeartbeats 8000000 in
set_option maxRecDepth 100000 in
theorem qzq.calls (k : Nat) (A0 : Option Addr) (c0 : Nat) (l0 : List ByteArray) (a1 : Int) (r : Int) (w : World) (hr0 : Kd.C Kd.string w A0 l0.length l0) (hc0 : l0.length ≤ c0) (h : qzq.f k l0 a1 = some r) :
  Calls Try.prog 92 #[.slice A0 l0.length c0,.int .i64 a1] w fun e w' => e = .returned (.int .i64 r) ∧ Drawn0 w w' := by
 have HR0 := qq.mk hr0
 have HC0 := qq.mk hc0
 clear hr0 hc0
 have H : (if (wrap64 (a1 - (l0.length : Int))) < 0 then (some (-1)) else (qzq.l0 k l0 (wrap64 (a1 - (l0.length : Int))) 0)) = some r := h
 clear h
 by_cases c3 : (wrap64 (a1 - (l0.length : Int))) < 0
 ·rw [if_pos c3] at H
  have c3b0 : decide ((wrap64 (a1 - (l0.length : Int))) < 0) = true := decide_eq_true c3
  clear c3
  obtain rfl := Option.some.inj H
  go_enter Try.func92,Try.ntmps92
  go_wp2
  go_ret
  exact ⟨by first | rfl | (simp;done) | (simp [*];done),by repeat (first | exact Drawn0.refl _ | apply Drawn0.step)⟩
 ·rw [if_neg c3] at H
  have c3b0 : decide ((wrap64 (a1 - (l0.length : Int))) < 0) = false := decide_eq_false c3
  clear c3
  have H' := qq.mk H
  clear H
  go_enter Try.func92,Try.ntmps92
  go_wp2
  go_loopg [1,5] k (fun kq v1 v5 w' => ∃ (x1_1 : Int) (x5_1 : Int),v1 = .int .i64 x1_1 ∧ v5 = .int .i64 x5_1 ∧ qq (qzq.l0 kq l0 x1_1 x5_1 = some r) ∧ qq (kq ≤ k) ∧ Drawn0 w w')
  case atStart => exact ⟨(wrap64 (a1 - (l0.length : Int))),(0),(by first | rfl | (simp;done) | (simp [*];done)),(by first | rfl | (simp;done) | (simp [*];done)),H',⟨Nat.le_refl _⟩,by repeat (first | exact Drawn0.refl _ | apply Drawn0.step)⟩
  case round =>
   clear H'
   try clear p2
   try clear c3
   try clear c3b0
   obtain ⟨x1_1,x5_1,rfl,rfl,HA,HK1,⟨m1,rfl⟩⟩ := hrel
   cases gk with
   | zero => exact absurd HA.out (by simp [qzq.l0])
   | succ k1 =>
    have H := HA.out
    clear HA
    simp only [qzq.l0] at H
    by_cases c4 : x5_1 < (l0.length : Int)
    ·rw [if_pos c4] at H
     have c4b0 : decide (x5_1 < (l0.length : Int)) = true := decide_eq_true c4
     clear c4
     by_cases c5 : 0 ≤ x5_1
     ·rw [if_pos c5] at H
      have c5b0 : decide (0 ≤ x5_1) = true := decide_eq_true c5
      clear c5
      by_cases c6 : (wrap64 (x1_1 - ((rdOf ByteArray.empty l0 x5_1).size : Int))) < 0
      ·rw [if_pos c6] at H
       have c6b0 : decide ((wrap64 (x1_1 - ((rdOf ByteArray.empty l0 x5_1).size : Int))) < 0) = true := decide_eq_true c6
       clear c6
       obtain rfl := Option.some.inj H
       have p101 : 0 ≤ (x5_1 : Int) := of_decide_eq_true (by assumption)
       have q101 : x5_1 < (l0.length : Int) := of_decide_eq_true (by assumption)
       obtain ⟨ad101,e101,hx101_0⟩ := Kd.at_string HR0.out x5_1 p101 q101
       cases e101
       replace p101 := eq_true p101
       replace q101 := eq_true q101
       go_wp2
       go_ret
       exact ⟨by first | rfl | (simp;done) | (simp [*];done),by repeat (first | exact Drawn0.refl _ | apply Drawn0.step)⟩
      ·rw [if_neg c6] at H
       have c6b0 : decide ((wrap64 (x1_1 - ((rdOf ByteArray.empty l0 x5_1).size : Int))) < 0) = false := decide_eq_false c6
       clear c6
       have H' := qq.mk H
       clear H
       have p101 : 0 ≤ (x5_1 : Int) := of_decide_eq_true (by assumption)
       have q101 : x5_1 < (l0.length : Int) := of_decide_eq_true (by assumption)
       obtain ⟨ad101,e101,hx101_0⟩ := Kd.at_string HR0.out x5_1 p101 q101
       cases e101
       replace p101 := eq_true p101
       replace q101 := eq_true q101
       go_wp2
       go_roundg k1
       case measure => have := HK1.out;omega
       case rel => exact ⟨(wrap64 (x1_1 - ((rdOf ByteArray.empty l0 x5_1).size : Int))),(wrap64 (x5_1 + 1)),(by first | rfl | (simp;done) | (simp [*];done)),(by first | rfl | (simp;done) | (simp [*];done)),H',⟨by have := HK1.out;omega⟩,by repeat (first | exact Drawn0.refl _ | apply Drawn0.step)⟩
     ·rw [if_neg c5] at H
      exact absurd H (by simp)
    ·rw [if_neg c4] at H
     have c4b0 : decide (x5_1 < (l0.length : Int)) = false := decide_eq_false c4
     clear c4
     obtain rfl := Option.some.inj H
     go_wp2
     go_ret
     exact ⟨by first | rfl | (simp;done) | (simp [*];done),by repeat (first | exact Drawn0.refl _ | apply Drawn0.step)⟩
def qzx.l0 : Nat → List ByteArray → List ByteArray → Int → Option (List ByteArray)
 | 0,_,_,_ => none
 | k + 1,x0,x3,x4 => if x4 < (x0.length : Int) then (if 0 ≤ x4 then (if x4 < (x3.length : Int) then (qzx.l0 k x0 (x3.set (x4 : Int).toNat (rdOf ByteArray.empty x0 x4)) (wrap64 (x4 + 1))) else (none)) else (none)) else (some x3)
def qzx.f (k : Nat) (l0 : List ByteArray) : Option (List ByteArray) := if 0 ≤ (l0.length : Int) then (if ((l0.length : Int) : Int).toNat ≤ 17592186044416 then (qzx.l0 k l0 (List.replicate ((l0.length : Int) : Int).toNat (⟨#[]⟩ : ByteArray)) 0) else (none)) else (none)
set_option maxHeartbeats 8000000 in
set_option maxRecDepth 100000 in
theorem qzx.calls (k : Nat) (A0 : Option Addr) (c0 : Nat) (l0 : List ByteArray) (r : List ByteArray) (w : World) (hr0 : Kd.C Kd.string w A0 l0.length l0) (hc0 : l0.length ≤ c0) (h : qzx.f k l0 = some r) :
  Calls Try.prog 94 #[.slice A0 l0.length c0] w fun e w' => ∃ v0_ : Value,e = .returned (v0_) ∧ Kd.R Kd.string 9 w' w.heap.size (fun _ => True) v0_ r ∧ Below w.heap.size w w' := by
 have HR0 := qq.mk hr0
 have HC0 := qq.mk hc0
 clear hr0 hc0
 have HB := qq.mk (Below.refl w.heap.size w)
 have H : (if 0 ≤ (l0.length : Int) then (if ((l0.length : Int) : Int).toNat ≤ 17592186044416 then (qzx.l0 k l0 (List.replicate ((l0.length : Int) : Int).toNat (⟨#[]⟩ : ByteArray)) 0) else (none)) else (none)) = some r := h
 clear h
 by_cases c2 : 0 ≤ (l0.length : Int)
 ·rw [if_pos c2] at H
  have c2b0 := eq_true c2
  have c2b1 : decide (0 ≤ (l0.length : Int)) = true := decide_eq_true c2
  clear c2
  by_cases c3 : ((l0.length : Int) : Int).toNat ≤ 17592186044416
  ·rw [if_pos c3] at H
   have c3b0 := eq_true c3
   have c3b1 : decide (((l0.length : Int) : Int).toNat ≤ 17592186044416) = true := decide_eq_true c3
   clear c3
   obtain ⟨y101,hy101⟩ : ∃ y_ : List ByteArray,y_ = (List.replicate ((l0.length : Int) : Int).toNat (⟨#[]⟩ : ByteArray)) := ⟨_,rfl⟩
   replace H : (qzx.l0 k l0 y101 0) = some r := by first | (rw [hy101];with_reducible exact H) | (have H2_ := (Option.bind_some _ _).symm.trans H;rw [hy101];with_reducible exact H2_) | (have H2_ := (Option.bind_some _ _).symm.trans H;with_reducible exact H2_) | with_reducible exact H | (rw [hy101];exact H) | exact H
   have Ny101 := qq.mk hy101
   clear hy101
   have H' := qq.mk H
   clear H
   go_enter Try.func94,Try.ntmps94
   go_wp2_with (first | ((with_reducible refine gate_dst (N := 7) rfl ?_);refine Kd.R_make Kd.string _ 9 rfl (N := 7) rfl 74 _ _ rfl (l0.length : Int) rfl rfl Try.underlying74 (.string ⟨#[]⟩) 16 info9 rfl (by decide) (by omega) (⟨#[]⟩ : ByteArray) (ok := fun _ => True) (okp := fun _ => True) rfl (fun _ hk => hk) trivial (of_decide_eq_true (by assumption)) (Nat.le_trans (Nat.mul_le_mul_right _ (of_decide_eq_true (by assumption) : (l0.length : Int).toNat ≤ 17592186044416)) (by omega)) (Below.refl _ _) (Nat.le_refl _) ?_;intro v102 w4 ho5 hb hg_ hnew_;clear hg_ hnew_;(first | rw [← Ny101.out] at ho5 | (simp only [Int.reduceToNat] at ho5;rw [← Ny101.out] at ho5));have n0_ := qq.mk (Kd.R_lower ho5 (zw (by repeat (first | (with_reducible first | exact HB.out | apply qj | apply qz | apply qk) | exact HB.out))));have n1_ := qq.mk (zv (by repeat (first | (with_reducible first | exact HB.out | apply qj | apply qz | apply qk) | exact HB.out)) hb);clear HB;have HO103 := n0_;have HB := n1_;clear n0_ n1_;clear hb ho5))
   go_loopg [4] k (fun kq v4 w' => ∃ (x3_1 : List ByteArray) (x4_1 : Int),v4 = .int .i64 x4_1 ∧ qq (qzx.l0 kq l0 x3_1 x4_1 = some r) ∧ qq (kq ≤ k) ∧ qq (Kd.R Kd.string 9 w' w.heap.size (fun _ => True) v102 x3_1) ∧ qq (Below w.heap.size w w'))
   case atStart => exact ⟨(y101),(0),(by first | rfl | (simp;done) | (simp [*];done)),H',⟨Nat.le_refl _⟩,⟨by (with_reducible repeat (first | apply Kd.jq | apply Kd.zx | apply Kd.jz));exact HO103.out⟩,⟨by repeat (first | (with_reducible first | exact HB.out | apply qj | apply qz | apply qk) | exact HB.out)⟩⟩
   case round =>
    clear H'
    try clear c2
    try clear c2b0
    try clear c2b1
    try clear p2
    try clear c3
    try clear c3b0
    try clear c3b1
    obtain ⟨x3_1,x4_1,rfl,HA,HK1,HO_3,HB⟩ := hrel
    cases gk with
    | zero => exact absurd HA.out (by simp [qzx.l0])
    | succ k1 =>
     have H := HA.out
     clear HA
     simp only [qzx.l0] at H
     by_cases c6 : x4_1 < (l0.length : Int)
     ·rw [if_pos c6] at H
      have c6b0 : decide (x4_1 < (l0.length : Int)) = true := decide_eq_true c6
      clear c6
      by_cases c7 : 0 ≤ x4_1
      ·rw [if_pos c7] at H
       have c7b0 : decide (0 ≤ x4_1) = true := decide_eq_true c7
       clear c7
       by_cases c8 : x4_1 < (x3_1.length : Int)
       ·rw [if_pos c8] at H
        have c8b0 : decide (x4_1 < (x3_1.length : Int)) = true := decide_eq_true c8
        clear c8
        obtain ⟨y105,hy105⟩ : ∃ y_ : List ByteArray,y_ = (x3_1.set (x4_1 : Int).toNat (rdOf ByteArray.empty l0 x4_1)) := ⟨_,rfl⟩
        replace H : (qzx.l0 k1 l0 y105 (wrap64 (x4_1 + 1))) = some r := by first | (rw [hy105];with_reducible exact H) | (have H2_ := (Option.bind_some _ _).symm.trans H;rw [hy105];with_reducible exact H2_) | (have H2_ := (Option.bind_some _ _).symm.trans H;with_reducible exact H2_) | with_reducible exact H | (rw [hy105];exact H) | exact H
        have Ny105 := qq.mk hy105
        clear hy105
        have H' := qq.mk H
        clear H
        have p104 : 0 ≤ (x4_1 : Int) := of_decide_eq_true (by assumption)
        have q104 : x4_1 < (l0.length : Int) := of_decide_eq_true (by assumption)
        obtain ⟨ad104,e104,hx104_0⟩ := Kd.at_string HR0.out x4_1 p104 q104
        cases e104
        replace hx104_0 := (HB.out.cell (World.block_lt_of_cell? w _ hx104_0)).trans hx104_0
        replace p104 := eq_true p104
        replace q104 := eq_true q104
        have p9 : 0 ≤ (x4_1 : Int) := of_decide_eq_true (by assumption)
        have q9 : (x4_1 : Int) < ((x3_1.length : Int) : Int) := of_decide_eq_true (by assumption)
        obtain ⟨go9,co9,eo9,gb9,gl9,cl9,HG9⟩ := Kd.R_form HO_3.out (by omega)
        (first | cases eo9 | (injection eo9 with ea_ en_ ec_;(first | subst ea_ | (injection ea_ with ea_;subst ea_));subst ec_;clear en_))
        have GB9 := qq.mk gb9
        have GG9 := qq.mk HG9
        clear gb9 gl9 HG9
        obtain ⟨hx9_0,hf9_0⟩ := Kd.R_celln (⟨#[]⟩ : ByteArray) HO_3.out (x4_1 : Int) p9 q9
        replace p9 := eq_true p9
        replace q9 := eq_true q9
        have HP10 := Kd.R_putg HO_3.out (x4_1 : Int) (rdOf ByteArray.empty l0 x4_1)
        go_wp2_with (first | ((with_reducible refine jw (t := 9) (p := 20) rfl ?_);refine jx (t := 9) (p := 20) (v := ?vo_w11) (w1 := (wr.setCell ⟨go9,(x4_1 : Int).toNat,none⟩ (.string (rdOf ByteArray.empty l0 x4_1)))) ?hg ?ho ?hn ?hr ?_;(case ho => rfl);(case hg => rfl);(case hn => rfl);(case hr => first | (go_simp;done) | (go_simp;rfl));intro w11 hw;have hg : wr.grownBy w11 (some go9) := (by rw [hw];exact HP10.2);have hp_ : Kd.R Kd.string 9 w11 w.heap.size (fun _ => True) (.slice (some ⟨go9,0,none⟩) x3_1.length co9) y105 := (by rw [hw,Ny105.out];exact HP10.1);clear HP10;have n0_ := qq.mk (hp_);have n1_ := qq.mk ((by rw [hw];exact qx (HB.out) GB9.out : Below w.heap.size w w11));clear HO_3;clear HB;have HO_3 := n0_;have HB := n1_;clear n0_ n1_;clear hg hw hp_))
        go_roundg k1
        case measure => have := HK1.out;omega
        case rel => exact ⟨(y105),(wrap64 (x4_1 + 1)),(by first | rfl | (simp;done) | (simp [*];done)),H',⟨by have := HK1.out;omega⟩,⟨by (with_reducible repeat (first | apply Kd.jq | apply Kd.zx | apply Kd.jz));exact HO_3.out⟩,⟨by repeat (first | (with_reducible first | exact HB.out | apply qj | apply qz | apply qk) | exact HB.out)⟩⟩
       ·rw [if_neg c8] at H
        exact absurd H (by simp)
      ·rw [if_neg c7] at H
       exact absurd H (by simp)
     ·rw [if_neg c6] at H
      have c6b0 : decide (x4_1 < (l0.length : Int)) = false := decide_eq_false c6
      clear c6
      obtain rfl := Option.some.inj H
      go_wp2
      go_ret
      exact ⟨_,by first | rfl | (simp [*,jk,jj] <;> rfl),by (with_reducible repeat (first | apply Kd.jq | apply Kd.zx | apply Kd.jz));exact HO_3.out,by repeat (first | (with_reducible first | exact HB.out | apply qj | apply qz | apply qk) | exact HB.out)⟩
  ·rw [if_neg c3] at H
   exact absurd H (by simp)
 ·rw [if_neg c2] at H
  exact absurd H (by simp)
def qqz.l0 : Nat → List ByteArray → List ByteArray → Int → Option (Bool)
 | 0,_,_,_ => none
 | k + 1,x0,x1,x5 => if x5 < (x0.length : Int) then (if 0 ≤ x5 then (if x5 < (x1.length : Int) then (if (rdOf ByteArray.empty x0 x5).toList = (rdOf ByteArray.empty x1 x5).toList then (qqz.l0 k x0 x1 (wrap64 (x5 + 1))) else (some false)) else (none)) else (none)) else (some true)
def qqz.f (k : Nat) (l0 : List ByteArray) (l1 : List ByteArray) : Option (Bool) := if (l0.length : Int) = (l1.length : Int) then (qqz.l0 k l0 l1 0) else (some false)
set_option maxHeartbeats 8000000 in
set_option maxRecDepth 100000 in
theorem qqz.calls (k : Nat) (A0 : Option Addr) (c0 : Nat) (l0 : List ByteArray) (A1 : Option Addr) (c1 : Nat) (l1 : List ByteArray) (r : Bool) (w : World) (hr0 : Kd.C Kd.string w A0 l0.length l0) (hc0 : l0.length ≤ c0) (hr1 : Kd.C Kd.string w A1 l1.length l1) (hc1 : l1.length ≤ c1) (h : qqz.f k l0 l1 = some r) :
  Calls Try.prog 98 #[.slice A0 l0.length c0,.slice A1 l1.length c1] w fun e w' => e = .returned (.bool r) ∧ Drawn0 w w' := by
 have HR0 := qq.mk hr0
 have HC0 := qq.mk hc0
 clear hr0 hc0
 have HR1 := qq.mk hr1
 have HC1 := qq.mk hc1
 clear hr1 hc1
 have H : (if (l0.length : Int) = (l1.length : Int) then (qqz.l0 k l0 l1 0) else (some false)) = some r := h
 clear h
 by_cases c3 : (l0.length : Int) = (l1.length : Int)
 ·rw [if_pos c3] at H
  have c3b0 : ((l0.length : Int) == (l1.length : Int)) = true := beq_iff_eq.mpr c3
  have c3b1 : ((l0.length : Int) != (l1.length : Int)) = false := bne_eq_false_iff_eq.mpr c3
  have c3b2 : (l0.length == l1.length) = true := by first | simpa using c3 | (simp at c3 ⊢;omega)
  clear c3
  have H' := qq.mk H
  clear H
  go_enter Try.func98,Try.ntmps98
  go_wp2
  repeat (go_quiet (fail);try go_wp2)
  go_loopg [5] k (fun kq v5 w' => ∃ (x5_1 : Int),v5 = .int .i64 x5_1 ∧ qq (qqz.l0 kq l0 l1 x5_1 = some r) ∧ qq (kq ≤ k) ∧ Drawn0 w w')
  case atStart => exact ⟨(0),(by first | rfl | (simp;done) | (simp [*];done)),H',⟨Nat.le_refl _⟩,by repeat (first | exact Drawn0.refl _ | apply Drawn0.step)⟩
  case round =>
   clear H'
   try clear c1
   try clear p2
   try clear c3
   try clear c3b0
   try clear c3b1
   try clear c3b2
   obtain ⟨x5_1,rfl,HA,HK1,⟨m1,rfl⟩⟩ := hrel
   cases gk with
   | zero => exact absurd HA.out (by simp [qqz.l0])
   | succ k1 =>
    have H := HA.out
    clear HA
    simp only [qqz.l0] at H
    by_cases c4 : x5_1 < (l0.length : Int)
    ·rw [if_pos c4] at H
     have c4b0 : decide (x5_1 < (l0.length : Int)) = true := decide_eq_true c4
     clear c4
     by_cases c5 : 0 ≤ x5_1
     ·rw [if_pos c5] at H
      have c5b0 : decide (0 ≤ x5_1) = true := decide_eq_true c5
      clear c5
      by_cases c6 : x5_1 < (l1.length : Int)
      ·rw [if_pos c6] at H
       have c6b0 : decide (x5_1 < (l1.length : Int)) = true := decide_eq_true c6
       clear c6
       by_cases c7 : (rdOf ByteArray.empty l0 x5_1).toList = (rdOf ByteArray.empty l1 x5_1).toList
       ·rw [if_pos c7] at H
        have c7b0 : ((rdOf ByteArray.empty l0 x5_1).toList == (rdOf ByteArray.empty l1 x5_1).toList) = true := beq_iff_eq.mpr c7
        have c7b1 : ((rdOf ByteArray.empty l0 x5_1).toList != (rdOf ByteArray.empty l1 x5_1).toList) = false := bne_eq_false_iff_eq.mpr c7
        clear c7
        have H' := qq.mk H
        clear H
        have p101 : 0 ≤ (x5_1 : Int) := of_decide_eq_true (by assumption)
        have q101 : x5_1 < (l0.length : Int) := of_decide_eq_true (by assumption)
        obtain ⟨ad101,e101,hx101_0⟩ := Kd.at_string HR0.out x5_1 p101 q101
        cases e101
        replace p101 := eq_true p101
        replace q101 := eq_true q101
        have p102 : 0 ≤ (x5_1 : Int) := of_decide_eq_true (by assumption)
        have q102 : x5_1 < (l1.length : Int) := of_decide_eq_true (by assumption)
        obtain ⟨ad102,e102,hx102_0⟩ := Kd.at_string HR1.out x5_1 p102 q102
        cases e102
        replace p102 := eq_true p102
        replace q102 := eq_true q102
        go_wp2
        repeat (go_quiet (fail);try go_wp2)
        go_roundg k1
        case measure => have := HK1.out;omega
        case rel => exact ⟨(wrap64 (x5_1 + 1)),(by first | rfl | (simp;done) | (simp [*];done)),H',⟨by have := HK1.out;omega⟩,by repeat (first | exact Drawn0.refl _ | apply Drawn0.step)⟩
       ·rw [if_neg c7] at H
        have c7b0 : ((rdOf ByteArray.empty l0 x5_1).toList == (rdOf ByteArray.empty l1 x5_1).toList) = false := beq_eq_false_iff_ne.mpr c7
        have c7b1 : ((rdOf ByteArray.empty l0 x5_1).toList != (rdOf ByteArray.empty l1 x5_1).toList) = true := bne_iff_ne.mpr c7
        obtain rfl := Option.some.inj H
        have p101 : 0 ≤ (x5_1 : Int) := of_decide_eq_true (by assumption)
        have q101 : x5_1 < (l0.length : Int) := of_decide_eq_true (by assumption)
        obtain ⟨ad101,e101,hx101_0⟩ := Kd.at_string HR0.out x5_1 p101 q101
        cases e101
        replace p101 := eq_true p101
        replace q101 := eq_true q101
        have p102 : 0 ≤ (x5_1 : Int) := of_decide_eq_true (by assumption)
        have q102 : x5_1 < (l1.length : Int) := of_decide_eq_true (by assumption)
        obtain ⟨ad102,e102,hx102_0⟩ := Kd.at_string HR1.out x5_1 p102 q102
        cases e102
        replace p102 := eq_true p102
        replace q102 := eq_true q102
        go_wp2
        repeat (go_quiet (fail);try go_wp2)
        go_ret
        exact ⟨by first | rfl | (simp;done) | (simp [*];done),by repeat (first | exact Drawn0.refl _ | apply Drawn0.step)⟩
      ·rw [if_neg c6] at H
       exact absurd H (by simp)
     ·rw [if_neg c5] at H
      exact absurd H (by simp)
    ·rw [if_neg c4] at H
     have c4b0 : decide (x5_1 < (l0.length : Int)) = false := decide_eq_false c4
     clear c4
     obtain rfl := Option.some.inj H
     go_wp2
     repeat (go_quiet (fail);try go_wp2)
     go_ret
     exact ⟨by first | rfl | (simp;done) | (simp [*];done),by repeat (first | exact Drawn0.refl _ | apply Drawn0.step)⟩
 ·rw [if_neg c3] at H
  have c3b0 : ((l0.length : Int) == (l1.length : Int)) = false := beq_eq_false_iff_ne.mpr c3
  have c3b1 : ((l0.length : Int) != (l1.length : Int)) = true := bne_iff_ne.mpr c3
  have c3b2 : (l0.length == l1.length) = false := by first | simpa using c3 | (simp at c3 ⊢;omega)
  obtain rfl := Option.some.inj H
  go_enter Try.func98,Try.ntmps98
  go_wp2
  repeat (go_quiet (fail);try go_wp2)
  go_ret
  exact ⟨by first | rfl | (simp;done) | (simp [*];done),by repeat (first | exact Drawn0.refl _ | apply Drawn0.step)⟩
end Go.Proofs.Ytakocdkcfjkmdaa.Pr
