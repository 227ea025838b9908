/- Printed texts, walks and plain facts that the law FnNames leans on, joined. -/
import Derived.Test.YtccbjchlcelkgaaFullFnNamesB
import Derived.Deep.QuietTactic
import Derived.BigQuiet
import Derived.Laws.Cover1
import Derived.OwnWalk
namespace Go.Proofs.Ytccbjchlcelkgaa.Pr
open Go.RowKit Go.Proofs.YtccbjchlcelkgaaW.PrintWords Go.Proofs.YtccbjchlcelkgaaW.PrintLast Go.Proofs.YtccbjchlcelkgaaW.PrintMore
attribute [local go_sem] max2_int min2_int max_two min_two max_three min_three max_four min_four
set_option linter.unusedVariables false
set_option linter.unusedSimpArgs false
mutual
def vx.j0 : Nat → Bool → Int → Int → ByteArray → ByteArray → Option (Bool)
 | 0,_,_,_,_,_ => none
 | k + 1,x3,x102000,x102001,x102002,x102003 => if x102000 = 1 then (if x3 = true then (if x102001 = 0 then (some true) else (some (x102001 == 1))) else (some false)) else (if x102000 = 2 then (vx.j1 k x3 x102000 (x102000 == 2) x102000 x102001 x102002 x102003) else (vx.j1 k x3 x102000 (x102000 == 5) x102000 x102001 x102002 x102003))
def vx.j1 : Nat → Bool → Int → Bool → Int → Int → ByteArray → ByteArray → Option (Bool)
 | 0,_,_,_,_,_,_,_ => none
 | k + 1,x3,x15,x29,x102000,x102001,x102002,x102003 => if x29 = true then (some x3) else (if x15 = 3 then (if x102001 = 0 then (if x102003.toList = ([] : List UInt8) then ((qqq.f k x102002 0 200).bind fun t102 => (some t102)) else (some false)) else (some false)) else (if x15 = 4 then (if x102001 = 0 then ((wj.f k x102003).bind fun t103 => (if t103 = true then ((qqq.f k x102002 1 200).bind fun t104 => (some t104)) else (some false))) else (some false)) else (if x15 = 6 then (if x3 = true then (if x102001 < 0 then (some false) else (if (Int.tmod x102001 64) ≤ 32 then (if (wrap64 (Int.tdiv x102001 64)) < 4294967296 then (if 0 ≤ (wrap64 (32 - (Int.tmod x102001 64))) then (if (shl .i64 1 (wrap64 (32 - (Int.tmod x102001 64)))) = 0 then (none) else (some ((Int.tmod (wrap64 (Int.tdiv x102001 64)) (shl .i64 1 (wrap64 (32 - (Int.tmod x102001 64))))) == 0))) else (none)) else (some false)) else (some false))) else (some false)) else (if x15 = 7 then (if x3 = true then (if x102001 ≥ (-100000000000) then (some (decide (x102001 ≤ 100000000000))) else (some false)) else (some false)) else (some false)))))
end
def vx.f (k : Nat) (a0_0 : Int) (a0_1 : Int) (a0_2 : ByteArray) (a0_3 : ByteArray) : Option (Bool) := if a0_2.toList = ([] : List UInt8) then (vx.j0 k (a0_3.toList == ([] : List UInt8)) a0_0 a0_1 a0_2 a0_3) else (vx.j0 k false a0_0 a0_1 a0_2 a0_3)
theorem vx.mono_l : ∀ k,(∀ y0 y1 y2 y3 y4,LeO (vx.j0 k y0 y1 y2 y3 y4) (vx.j0 (k + 1) y0 y1 y2 y3 y4)) ∧ (∀ y0 y1 y2 y3 y4 y5 y6,LeO (vx.j1 k y0 y1 y2 y3 y4 y5 y6) (vx.j1 (k + 1) y0 y1 y2 y3 y4 y5 y6))
 | 0 => ⟨fun _ _ _ _ _ r h => by simp [vx.j0] at h,fun _ _ _ _ _ _ _ r h => by simp [vx.j1] at h⟩
 | k + 1 => by
  obtain ⟨ih0,ih1⟩ := vx.mono_l k
  refine ⟨?_,?_⟩
  ·intro y0 y1 y2 y3 y4
   unfold vx.j0
   repeat' first
   | (with_reducible exact ih0 _ _ _ _ _)
   | (with_reducible exact ih1 _ _ _ _ _ _ _)
   | (with_reducible exact wj.mono _ _)
   | (with_reducible exact qqq.mono _ _ _ _)
   | (with_reducible exact LeO.refl _)
   | (with_reducible exact LeO.none _)
   | (with_reducible refine LeO.ite ?_ ?_)
   | (with_reducible refine LeO.bind ?_ (fun _ => ?_))
   | exact ih0 _ _ _ _ _
   | exact ih1 _ _ _ _ _ _ _
   | exact wj.mono _ _
   | exact qqq.mono _ _ _ _
   | exact LeO.none _
   | refine LeO.ite ?_ ?_
   | refine LeO.bind ?_ (fun _ => ?_)
  ·intro y0 y1 y2 y3 y4 y5 y6
   unfold vx.j1
   repeat' first
   | (with_reducible exact ih0 _ _ _ _ _)
   | (with_reducible exact ih1 _ _ _ _ _ _ _)
   | (with_reducible exact wj.mono _ _)
   | (with_reducible exact qqq.mono _ _ _ _)
   | (with_reducible exact LeO.refl _)
   | (with_reducible exact LeO.none _)
   | (with_reducible refine LeO.ite ?_ ?_)
   | (with_reducible refine LeO.bind ?_ (fun _ => ?_))
   | exact ih0 _ _ _ _ _
   | exact ih1 _ _ _ _ _ _ _
   | exact wj.mono _ _
   | exact qqq.mono _ _ _ _
   | exact LeO.none _
   | refine LeO.ite ?_ ?_
   | refine LeO.bind ?_ (fun _ => ?_)
theorem vx.mono : ∀ a0 a1 a2 a3 k,LeO (vx.f k a0 a1 a2 a3) (vx.f (k + 1) a0 a1 a2 a3) := by
 intro a0 a1 a2 a3 k
 obtain ⟨ih0,ih1⟩ := vx.mono_l k
 unfold vx.f
 repeat' first
   | (with_reducible exact ih0 _ _ _ _ _)
   | (with_reducible exact ih1 _ _ _ _ _ _ _)
   | (with_reducible exact wj.mono _ _)
   | (with_reducible exact qqq.mono _ _ _ _)
   | (with_reducible exact LeO.refl _)
   | (with_reducible exact LeO.none _)
   | (with_reducible refine LeO.ite ?_ ?_)
   | (with_reducible refine LeO.bind ?_ (fun _ => ?_))
   | exact ih0 _ _ _ _ _
   | exact ih1 _ _ _ _ _ _ _
   | exact wj.mono _ _
   | exact qqq.mono _ _ _ _
   | exact LeO.none _
   | refine LeO.ite ?_ ?_
   | refine LeO.bind ?_ (fun _ => ?_)
set_option maxHeartbeats 8000000 in
set_option maxRecDepth 100000 in
theorem vx.calls (k : Nat) (a0_0 : Int) (a0_1 : Int) (a0_2 : ByteArray) (a0_3 : ByteArray) (r : Bool) (w : World) (h : vx.f k a0_0 a0_1 a0_2 a0_3 = some r) :
  Calls Try.prog 70 #[.agg #[.int .i64 a0_0,.int .i64 a0_1,.string a0_2,.string a0_3]] w fun e w' => e = .returned (.bool r) ∧ Below w.heap.size w w' := by
 have hu34 := Try.underlying34
 have HB := qq.mk (Below.refl w.heap.size w)
 have H : (if a0_2.toList = ([] : List UInt8) then (vx.j0 k (a0_3.toList == ([] : List UInt8)) a0_0 a0_1 a0_2 a0_3) else (vx.j0 k false a0_0 a0_1 a0_2 a0_3)) = some r := h
 clear h
 have HC2 := qq.mk H
 clear H
 go_enter Try.func70,Try.ntmps70
 go_upto_region 1 with (first | ((with_reducible refine gate_dst (N := 1) rfl ?_);refine box_event ?hg (N := 1) ?hd (cs := #[.int .i64 a0_0,.int .i64 a0_1,.string a0_2,.string a0_3]) (t := 34) ?hr ?_;(case hd => rfl);(case hg => rfl);(case hr => first | (go_simp;done) | (go_simp;rfl));intro gb101 hg w3 hbox hb;have n0_ := qq.mk (zv (by repeat (first | (with_reducible first | exact HB.out | apply qj | apply qz | apply qk) | exact HB.out)) hb);have n1_ := qq.mk (hbox);have n2_ := qq.mk ((by rw [hg];exact (zw (by repeat (first | (with_reducible first | exact HB.out | apply qj | apply qz | apply qk) | exact HB.out))) : w.heap.size ≤ gb101));have n3_ := qq.mk ((by rw [hg];exact (zw (by repeat (first | (with_reducible first | exact HB.out | apply qj | apply qz | apply qk) | exact HB.out))) : w.heap.size ≤ gb101));clear HB;have HB := n0_;have BK101 := n1_;have GW101 := n2_;have GE101 := n3_;clear n0_ n1_ n2_ n3_;clear hb hbox hg))
 repeat (go_quiet (first | ((with_reducible refine gate_dst (N := 1) rfl ?_);refine box_event ?hg (N := 1) ?hd (cs := #[.int .i64 a0_0,.int .i64 a0_1,.string a0_2,.string a0_3]) (t := 34) ?hr ?_;(case hd => rfl);(case hg => rfl);(case hr => first | (go_simp;done) | (go_simp;rfl));intro gb101 hg w3 hbox hb;have n0_ := qq.mk (zv (by repeat (first | (with_reducible first | exact HB.out | apply qj | apply qz | apply qk) | exact HB.out)) hb);have n1_ := qq.mk (hbox);have n2_ := qq.mk ((by rw [hg];exact (zw (by repeat (first | (with_reducible first | exact HB.out | apply qj | apply qz | apply qk) | exact HB.out))) : w.heap.size ≤ gb101));have n3_ := qq.mk ((by rw [hg];exact (zw (by repeat (first | (with_reducible first | exact HB.out | apply qj | apply qz | apply qk) | exact HB.out))) : w.heap.size ≤ gb101));clear HB;have HB := n0_;have BK101 := n1_;have GW101 := n2_;have GE101 := n3_;clear n0_ n1_ n2_ n3_;clear hb hbox hg));go_upto_region 1 with (first | ((with_reducible refine gate_dst (N := 1) rfl ?_);refine box_event ?hg (N := 1) ?hd (cs := #[.int .i64 a0_0,.int .i64 a0_1,.string a0_2,.string a0_3]) (t := 34) ?hr ?_;(case hd => rfl);(case hg => rfl);(case hr => first | (go_simp;done) | (go_simp;rfl));intro gb101 hg w3 hbox hb;have n0_ := qq.mk (zv (by repeat (first | (with_reducible first | exact HB.out | apply qj | apply qz | apply qk) | exact HB.out)) hb);have n1_ := qq.mk (hbox);have n2_ := qq.mk ((by rw [hg];exact (zw (by repeat (first | (with_reducible first | exact HB.out | apply qj | apply qz | apply qk) | exact HB.out))) : w.heap.size ≤ gb101));have n3_ := qq.mk ((by rw [hg];exact (zw (by repeat (first | (with_reducible first | exact HB.out | apply qj | apply qz | apply qk) | exact HB.out))) : w.heap.size ≤ gb101));clear HB;have HB := n0_;have BK101 := n1_;have GW101 := n2_;have GE101 := n3_;clear n0_ n1_ n2_ n3_;clear hb hbox hg)))
 (try simp only [Act.put,List.setIfInBounds_toArray,List.set_cons_zero,List.set_cons_succ])
 go_cut [3] (fun v3 wc => ∃ (kq : Nat) (x3_1 : Bool),v3 = .bool x3_1 ∧ qq (vx.j0 kq x3_1 a0_0 a0_1 a0_2 a0_3 = some r) ∧ qq (kq ≤ k) ∧ qq (wc.heap[gb101]? = some (.cells #[.int .i64 a0_0,.int .i64 a0_1,.string a0_2,.string a0_3] 34 (0,0))) ∧ qq (Below w.heap.size w wc))
 case first =>
  have H := HC2.out
  clear HC2
  by_cases c4 : a0_2.toList = ([] : List UInt8)
  ·rw [if_pos c4] at H
   have c4b0 : (a0_2.toList == ([] : List UInt8)) = true := beq_iff_eq.mpr c4
   have c4b1 : (a0_2.toList != ([] : List UInt8)) = false := bne_eq_false_iff_eq.mpr c4
   clear c4
   (first | rw [c4b0] | (simp only [i64_w,i32_w];rw [c4b0]) | skip)
   have H' := qq.mk H
   clear H
   have hcz5_0 : w3.cell? ⟨gb101,0,none⟩ = some (.int .i64 a0_0) := (qw BK101.out 0).trans rfl
   have hcz5_1 : w3.cell? ⟨gb101,1,none⟩ = some (.int .i64 a0_1) := (qw BK101.out 1).trans rfl
   have hcz5_2 : w3.cell? ⟨gb101,2,none⟩ = some (.string a0_2) := (qw BK101.out 2).trans rfl
   have hcz5_3 : w3.cell? ⟨gb101,3,none⟩ = some (.string a0_3) := (qw BK101.out 3).trans rfl
   have hfz5_0 := qv BK101.out 0
   have hfz5_1 := qv BK101.out 1
   have hfz5_2 := qv BK101.out 2
   have hfz5_3 := qv BK101.out 3
   go_wp2
   repeat (go_quiet (fail);try go_wp2)
   go_meet
   case rel => exact ⟨_,((a0_3.toList == ([] : List UInt8))),(by first | rfl | (simp;done) | (simp [*];done) | (generalize ByteArray.toList _ = l_;cases l_ <;> first | rfl | (simp;done))),H',⟨by first | omega | exact Nat.le_refl _⟩,⟨by (with_reducible repeat (first | refine zz ?_ _ | refine zj ?_ | refine zq ?_ _));exact BK101.out⟩,⟨by repeat (first | (with_reducible first | exact HB.out | apply qj | apply qz | apply qk | refine qx ?_ GE101.out) | exact HB.out)⟩⟩
  ·rw [if_neg c4] at H
   have c4b0 : (a0_2.toList == ([] : List UInt8)) = false := beq_eq_false_iff_ne.mpr c4
   have c4b1 : (a0_2.toList != ([] : List UInt8)) = true := bne_iff_ne.mpr c4
   (first | rw [c4b0] | (simp only [i64_w,i32_w];rw [c4b0]) | skip)
   have H' := qq.mk H
   clear H
   have hcz6_0 : w3.cell? ⟨gb101,0,none⟩ = some (.int .i64 a0_0) := (qw BK101.out 0).trans rfl
   have hcz6_1 : w3.cell? ⟨gb101,1,none⟩ = some (.int .i64 a0_1) := (qw BK101.out 1).trans rfl
   have hcz6_2 : w3.cell? ⟨gb101,2,none⟩ = some (.string a0_2) := (qw BK101.out 2).trans rfl
   have hcz6_3 : w3.cell? ⟨gb101,3,none⟩ = some (.string a0_3) := (qw BK101.out 3).trans rfl
   have hfz6_0 := qv BK101.out 0
   have hfz6_1 := qv BK101.out 1
   have hfz6_2 := qv BK101.out 2
   have hfz6_3 := qv BK101.out 3
   go_wp2
   repeat (go_quiet (fail);try go_wp2)
   go_meet
   case rel => exact ⟨_,(false),(by first | rfl | (simp;done) | (simp [*];done) | (generalize ByteArray.toList _ = l_;cases l_ <;> first | rfl | (simp;done))),H',⟨by first | omega | exact Nat.le_refl _⟩,⟨by (with_reducible repeat (first | refine zz ?_ _ | refine zj ?_ | refine zq ?_ _));exact BK101.out⟩,⟨by repeat (first | (with_reducible first | exact HB.out | apply qj | apply qz | apply qk | refine qx ?_ GE101.out) | exact HB.out)⟩⟩
 case rest =>
  clear HC2
  try clear p2
  try clear c4
  try clear c4b0
  try clear c4b1
  try clear hcz5_0
  try clear hcz5_1
  try clear hcz5_2
  try clear hcz5_3
  try clear hcz6_0
  try clear hcz6_1
  try clear hcz6_2
  try clear hcz6_3
  try clear hfz5_0
  try clear hfz5_1
  try clear hfz5_2
  try clear hfz5_3
  try clear hfz6_0
  try clear hfz6_1
  try clear hfz6_2
  try clear hfz6_3
  obtain ⟨kq,x3_1,rfl,HA,HJ1,BK101,HB⟩ := hcut
  cases kq with
  | zero => exact absurd HA.out (by simp [vx.j0])
  | succ kj1 =>
   have H := HA.out
   clear HA
   simp only [vx.j0] at H
   by_cases c7 : a0_0 = 1
   ·rw [if_pos c7] at H
    have c7b0 : (a0_0 == 1) = true := beq_iff_eq.mpr c7
    have c7b1 : (a0_0 != 1) = false := bne_eq_false_iff_eq.mpr c7
    clear c7
    by_cases c8 : x3_1 = true
    ·subst c8
     have H1 : (if a0_1 = 0 then (some true) else (some (a0_1 == 1))) = some r := by rw [if_pos rfl] at H;exact H
     clear H
     have H := H1
     clear H1
     by_cases c9 : a0_1 = 0
     ·rw [if_pos c9] at H
      have c9b0 : (a0_1 == 0) = true := beq_iff_eq.mpr c9
      have c9b1 : (a0_1 != 0) = false := bne_eq_false_iff_eq.mpr c9
      clear c9
      obtain rfl := Option.some.inj H
      have hcz10_0 : wc.cell? ⟨gb101,0,none⟩ = some (.int .i64 a0_0) := (qw BK101.out 0).trans rfl
      have hcz10_1 : wc.cell? ⟨gb101,1,none⟩ = some (.int .i64 a0_1) := (qw BK101.out 1).trans rfl
      have hcz10_2 : wc.cell? ⟨gb101,2,none⟩ = some (.string a0_2) := (qw BK101.out 2).trans rfl
      have hcz10_3 : wc.cell? ⟨gb101,3,none⟩ = some (.string a0_3) := (qw BK101.out 3).trans rfl
      have hfz10_0 := qv BK101.out 0
      have hfz10_1 := qv BK101.out 1
      have hfz10_2 := qv BK101.out 2
      have hfz10_3 := qv BK101.out 3
      go_wp2
      repeat (go_quiet (fail);try go_wp2)
      go_ret
      exact ⟨by first | rfl | (simp [*,jx,jw] <;> rfl),by repeat (first | (with_reducible first | exact HB.out | apply qj | apply qz | apply qk | refine qx ?_ GE101.out) | exact HB.out)⟩
     ·rw [if_neg c9] at H
      have c9b0 : (a0_1 == 0) = false := beq_eq_false_iff_ne.mpr c9
      have c9b1 : (a0_1 != 0) = true := bne_iff_ne.mpr c9
      obtain rfl := Option.some.inj H
      have hcz11_0 : wc.cell? ⟨gb101,0,none⟩ = some (.int .i64 a0_0) := (qw BK101.out 0).trans rfl
      have hcz11_1 : wc.cell? ⟨gb101,1,none⟩ = some (.int .i64 a0_1) := (qw BK101.out 1).trans rfl
      have hcz11_2 : wc.cell? ⟨gb101,2,none⟩ = some (.string a0_2) := (qw BK101.out 2).trans rfl
      have hcz11_3 : wc.cell? ⟨gb101,3,none⟩ = some (.string a0_3) := (qw BK101.out 3).trans rfl
      have hfz11_0 := qv BK101.out 0
      have hfz11_1 := qv BK101.out 1
      have hfz11_2 := qv BK101.out 2
      have hfz11_3 := qv BK101.out 3
      go_wp2
      repeat (go_quiet (fail);try go_wp2)
      go_ret
      exact ⟨by first | rfl | (simp [*,jx,jw] <;> rfl),by repeat (first | (with_reducible first | exact HB.out | apply qj | apply qz | apply qk | refine qx ?_ GE101.out) | exact HB.out)⟩
    ·replace c8 := Bool.eq_false_iff.mpr c8
     subst c8
     have H1 : (some false) = some r := by rw [if_neg (show ¬ (false = true) by decide)] at H;exact H
     clear H
     have H := H1
     clear H1
     obtain rfl := Option.some.inj H
     have hcz12_0 : wc.cell? ⟨gb101,0,none⟩ = some (.int .i64 a0_0) := (qw BK101.out 0).trans rfl
     have hcz12_1 : wc.cell? ⟨gb101,1,none⟩ = some (.int .i64 a0_1) := (qw BK101.out 1).trans rfl
     have hcz12_2 : wc.cell? ⟨gb101,2,none⟩ = some (.string a0_2) := (qw BK101.out 2).trans rfl
     have hcz12_3 : wc.cell? ⟨gb101,3,none⟩ = some (.string a0_3) := (qw BK101.out 3).trans rfl
     have hfz12_0 := qv BK101.out 0
     have hfz12_1 := qv BK101.out 1
     have hfz12_2 := qv BK101.out 2
     have hfz12_3 := qv BK101.out 3
     go_wp2
     repeat (go_quiet (fail);try go_wp2)
     go_ret
     exact ⟨by first | rfl | (simp [*,jx,jw] <;> rfl),by repeat (first | (with_reducible first | exact HB.out | apply qj | apply qz | apply qk | refine qx ?_ GE101.out) | exact HB.out)⟩
   ·rw [if_neg c7] at H
    have c7b0 : (a0_0 == 1) = false := beq_eq_false_iff_ne.mpr c7
    have c7b1 : (a0_0 != 1) = true := bne_iff_ne.mpr c7
    have HC13 := qq.mk H
    clear H
    have hcz14_0 : wc.cell? ⟨gb101,0,none⟩ = some (.int .i64 a0_0) := (qw BK101.out 0).trans rfl
    have hcz14_1 : wc.cell? ⟨gb101,1,none⟩ = some (.int .i64 a0_1) := (qw BK101.out 1).trans rfl
    have hcz14_2 : wc.cell? ⟨gb101,2,none⟩ = some (.string a0_2) := (qw BK101.out 2).trans rfl
    have hcz14_3 : wc.cell? ⟨gb101,3,none⟩ = some (.string a0_3) := (qw BK101.out 3).trans rfl
    have hfz14_0 := qv BK101.out 0
    have hfz14_1 := qv BK101.out 1
    have hfz14_2 := qv BK101.out 2
    have hfz14_3 := qv BK101.out 3
    go_upto_if 29 with (fail)
    repeat (go_quiet (fail);go_upto_if 29 with (fail))
    go_cut [29] (fun v29 wc => ∃ (kq : Nat) (x29_12 : Bool),v29 = .bool x29_12 ∧ qq (vx.j1 kq x3_1 a0_0 x29_12 a0_0 a0_1 a0_2 a0_3 = some r) ∧ qq (kq ≤ kj1) ∧ qq (wc.heap[gb101]? = some (.cells #[.int .i64 a0_0,.int .i64 a0_1,.string a0_2,.string a0_3] 34 (0,0))) ∧ qq (Below w.heap.size w wc))
    case first =>
     have H := HC13.out
     clear HC13
     by_cases c15 : a0_0 = 2
     ·rw [if_pos c15] at H
      have c15b0 : (a0_0 == 2) = true := beq_iff_eq.mpr c15
      have c15b1 : (a0_0 != 2) = false := bne_eq_false_iff_eq.mpr c15
      clear c15
      (first | rw [c15b0] | (simp only [i64_w,i32_w];rw [c15b0]) | skip)
      have H' := qq.mk H
      clear H
      go_wp2
      repeat (go_quiet (fail);try go_wp2)
      go_meet
      case rel => exact ⟨_,((a0_0 == 2)),(by first | rfl | (simp;done) | (simp [*];done) | (generalize ByteArray.toList _ = l_;cases l_ <;> first | rfl | (simp;done))),H',⟨by have := HJ1.out;first | omega | exact Nat.le_refl _⟩,⟨by (with_reducible repeat (first | refine zz ?_ _ | refine zj ?_ | refine zq ?_ _));exact BK101.out⟩,⟨by repeat (first | (with_reducible first | exact HB.out | apply qj | apply qz | apply qk | refine qx ?_ GE101.out) | exact HB.out)⟩⟩
     ·rw [if_neg c15] at H
      have c15b0 : (a0_0 == 2) = false := beq_eq_false_iff_ne.mpr c15
      have c15b1 : (a0_0 != 2) = true := bne_iff_ne.mpr c15
      (first | rw [c15b0] | (simp only [i64_w,i32_w];rw [c15b0]) | skip)
      have H' := qq.mk H
      clear H
      go_wp2
      repeat (go_quiet (fail);try go_wp2)
      go_meet
      case rel => exact ⟨_,((a0_0 == 5)),(by first | rfl | (simp;done) | (simp [*];done) | (generalize ByteArray.toList _ = l_;cases l_ <;> first | rfl | (simp;done))),H',⟨by have := HJ1.out;first | omega | exact Nat.le_refl _⟩,⟨by (with_reducible repeat (first | refine zz ?_ _ | refine zj ?_ | refine zq ?_ _));exact BK101.out⟩,⟨by repeat (first | (with_reducible first | exact HB.out | apply qj | apply qz | apply qk | refine qx ?_ GE101.out) | exact HB.out)⟩⟩
    case rest =>
     clear HC13
     try clear c1
     try clear p2
     try clear c4
     try clear c4b0
     try clear c4b1
     try clear c7
     try clear c7b0
     try clear c7b1
     try clear c8
     try clear c9
     try clear c9b0
     try clear c9b1
     try clear c15
     try clear c15b0
     try clear c15b1
     try clear hcz10_0
     try clear hcz10_1
     try clear hcz10_2
     try clear hcz10_3
     try clear hcz11_0
     try clear hcz11_1
     try clear hcz11_2
     try clear hcz11_3
     try clear hcz12_0
     try clear hcz12_1
     try clear hcz12_2
     try clear hcz12_3
     try clear hcz14_0
     try clear hcz14_1
     try clear hcz14_2
     try clear hcz14_3
     try clear hcz5_0
     try clear hcz5_1
     try clear hcz5_2
     try clear hcz5_3
     try clear hcz6_0
     try clear hcz6_1
     try clear hcz6_2
     try clear hcz6_3
     try clear hfz10_0
     try clear hfz10_1
     try clear hfz10_2
     try clear hfz10_3
     try clear hfz11_0
     try clear hfz11_1
     try clear hfz11_2
     try clear hfz11_3
     try clear hfz12_0
     try clear hfz12_1
     try clear hfz12_2
     try clear hfz12_3
     try clear hfz14_0
     try clear hfz14_1
     try clear hfz14_2
     try clear hfz14_3
     try clear hfz5_0
     try clear hfz5_1
     try clear hfz5_2
     try clear hfz5_3
     try clear hfz6_0
     try clear hfz6_1
     try clear hfz6_2
     try clear hfz6_3
     try clear p2
     obtain ⟨kq,x29_12,rfl,HA,HJ12,BK101,HB⟩ := hcut
     cases kq with
     | zero => exact absurd HA.out (by simp [vx.j1])
     | succ kj12 =>
      have H := HA.out
      clear HA
      simp only [vx.j1] at H
      by_cases c16 : x29_12 = true
      ·subst c16
       have H1 : (some x3_1) = some r := by rw [if_pos rfl] at H;exact H
       clear H
       have H := H1
       clear H1
       obtain rfl := Option.some.inj H
       go_wp2
       repeat (go_quiet (fail);try go_wp2)
       go_ret
       exact ⟨by first | rfl | (simp [*,jx,jw] <;> rfl),by repeat (first | (with_reducible first | exact HB.out | apply qj | apply qz | apply qk | refine qx ?_ GE101.out) | exact HB.out)⟩
      ·replace c16 := Bool.eq_false_iff.mpr c16
       subst c16
       have H1 : (if a0_0 = 3 then (if a0_1 = 0 then (if a0_3.toList = ([] : List UInt8) then ((qqq.f kj12 a0_2 0 200).bind fun t102 => (some t102)) else (some false)) else (some false)) else (if a0_0 = 4 then (if a0_1 = 0 then ((wj.f kj12 a0_3).bind fun t103 => (if t103 = true then ((qqq.f kj12 a0_2 1 200).bind fun t104 => (some t104)) else (some false))) else (some false)) else (if a0_0 = 6 then (if x3_1 = true then (if a0_1 < 0 then (some false) else (if (Int.tmod a0_1 64) ≤ 32 then (if (wrap64 (Int.tdiv a0_1 64)) < 4294967296 then (if 0 ≤ (wrap64 (32 - (Int.tmod a0_1 64))) then (if (shl .i64 1 (wrap64 (32 - (Int.tmod a0_1 64)))) = 0 then (none) else (some ((Int.tmod (wrap64 (Int.tdiv a0_1 64)) (shl .i64 1 (wrap64 (32 - (Int.tmod a0_1 64))))) == 0))) else (none)) else (some false)) else (some false))) else (some false)) else (if a0_0 = 7 then (if x3_1 = true then (if a0_1 ≥ (-100000000000) then (some (decide (a0_1 ≤ 100000000000))) else (some false)) else (some false)) else (some false))))) = some r := by rw [if_neg (show ¬ (false = true) by decide)] at H;exact H
       clear H
       have H := H1
       clear H1
       by_cases c17 : a0_0 = 3
       ·rw [if_pos c17] at H
        have c17b0 : (a0_0 == 3) = true := beq_iff_eq.mpr c17
        have c17b1 : (a0_0 != 3) = false := bne_eq_false_iff_eq.mpr c17
        clear c17
        by_cases c18 : a0_1 = 0
        ·rw [if_pos c18] at H
         have c18b0 : (a0_1 == 0) = true := beq_iff_eq.mpr c18
         have c18b1 : (a0_1 != 0) = false := bne_eq_false_iff_eq.mpr c18
         clear c18
         by_cases c19 : a0_3.toList = ([] : List UInt8)
         ·rw [if_pos c19] at H
          have c19b0 : (a0_3.toList == ([] : List UInt8)) = true := beq_iff_eq.mpr c19
          have c19b1 : (a0_3.toList != ([] : List UInt8)) = false := bne_eq_false_iff_eq.mpr c19
          clear c19
          replace H := Option.bind_eq_some_iff.mp H
          obtain ⟨t102,A200,H⟩ := H
          replace H : (some t102) = some r := H
          have A20 := qq.mk A200
          clear A200
          obtain rfl := Option.some.inj H
          have hcz21_0 : wc.cell? ⟨gb101,0,none⟩ = some (.int .i64 a0_0) := (qw BK101.out 0).trans rfl
          have hcz21_1 : wc.cell? ⟨gb101,1,none⟩ = some (.int .i64 a0_1) := (qw BK101.out 1).trans rfl
          have hcz21_2 : wc.cell? ⟨gb101,2,none⟩ = some (.string a0_2) := (qw BK101.out 2).trans rfl
          have hcz21_3 : wc.cell? ⟨gb101,3,none⟩ = some (.string a0_3) := (qw BK101.out 3).trans rfl
          have hfz21_0 := qv BK101.out 0
          have hfz21_1 := qv BK101.out 1
          have hfz21_2 := qv BK101.out 2
          have hfz21_3 := qv BK101.out 3
          go_wp2_with (first | (go_at_call 128;(with_reducible refine (qqq.calls kj12 a0_2 0 200 t102 _ A20.out).mono ?_);rintro e w' ⟨rfl,⟨nd,rfl⟩⟩;(try first | exact ⟨rfl,_,World.drewN_drewN _ _ _⟩ | exact ⟨rfl,_,Eq.trans (World.drewN_drewN _ _ _) (congrArg (World.drewN _) (Nat.add_assoc _ _ _))⟩)))
          repeat (go_quiet (first | (go_at_call 128;(with_reducible refine (qqq.calls kj12 a0_2 0 200 t102 _ A20.out).mono ?_);rintro e w' ⟨rfl,⟨nd,rfl⟩⟩;(try first | exact ⟨rfl,_,World.drewN_drewN _ _ _⟩ | exact ⟨rfl,_,Eq.trans (World.drewN_drewN _ _ _) (congrArg (World.drewN _) (Nat.add_assoc _ _ _))⟩)));try go_wp2_with (first | (go_at_call 128;(with_reducible refine (qqq.calls kj12 a0_2 0 200 t102 _ A20.out).mono ?_);rintro e w' ⟨rfl,⟨nd,rfl⟩⟩;(try first | exact ⟨rfl,_,World.drewN_drewN _ _ _⟩ | exact ⟨rfl,_,Eq.trans (World.drewN_drewN _ _ _) (congrArg (World.drewN _) (Nat.add_assoc _ _ _))⟩))))
          go_ret
          exact ⟨by first | rfl | (simp [*,jx,jw] <;> rfl),by repeat (first | (with_reducible first | exact HB.out | apply qj | apply qz | apply qk | refine qx ?_ GE101.out) | exact HB.out)⟩
         ·rw [if_neg c19] at H
          have c19b0 : (a0_3.toList == ([] : List UInt8)) = false := beq_eq_false_iff_ne.mpr c19
          have c19b1 : (a0_3.toList != ([] : List UInt8)) = true := bne_iff_ne.mpr c19
          obtain rfl := Option.some.inj H
          have hcz22_0 : wc.cell? ⟨gb101,0,none⟩ = some (.int .i64 a0_0) := (qw BK101.out 0).trans rfl
          have hcz22_1 : wc.cell? ⟨gb101,1,none⟩ = some (.int .i64 a0_1) := (qw BK101.out 1).trans rfl
          have hcz22_2 : wc.cell? ⟨gb101,2,none⟩ = some (.string a0_2) := (qw BK101.out 2).trans rfl
          have hcz22_3 : wc.cell? ⟨gb101,3,none⟩ = some (.string a0_3) := (qw BK101.out 3).trans rfl
          have hfz22_0 := qv BK101.out 0
          have hfz22_1 := qv BK101.out 1
          have hfz22_2 := qv BK101.out 2
          have hfz22_3 := qv BK101.out 3
          go_wp2
          repeat (go_quiet (fail);try go_wp2)
          go_ret
          exact ⟨by first | rfl | (simp [*,jx,jw] <;> rfl),by repeat (first | (with_reducible first | exact HB.out | apply qj | apply qz | apply qk | refine qx ?_ GE101.out) | exact HB.out)⟩
        ·rw [if_neg c18] at H
         have c18b0 : (a0_1 == 0) = false := beq_eq_false_iff_ne.mpr c18
         have c18b1 : (a0_1 != 0) = true := bne_iff_ne.mpr c18
         obtain rfl := Option.some.inj H
         have hcz23_0 : wc.cell? ⟨gb101,0,none⟩ = some (.int .i64 a0_0) := (qw BK101.out 0).trans rfl
         have hcz23_1 : wc.cell? ⟨gb101,1,none⟩ = some (.int .i64 a0_1) := (qw BK101.out 1).trans rfl
         have hcz23_2 : wc.cell? ⟨gb101,2,none⟩ = some (.string a0_2) := (qw BK101.out 2).trans rfl
         have hcz23_3 : wc.cell? ⟨gb101,3,none⟩ = some (.string a0_3) := (qw BK101.out 3).trans rfl
         have hfz23_0 := qv BK101.out 0
         have hfz23_1 := qv BK101.out 1
         have hfz23_2 := qv BK101.out 2
         have hfz23_3 := qv BK101.out 3
         go_wp2
         repeat (go_quiet (fail);try go_wp2)
         go_ret
         exact ⟨by first | rfl | (simp [*,jx,jw] <;> rfl),by repeat (first | (with_reducible first | exact HB.out | apply qj | apply qz | apply qk | refine qx ?_ GE101.out) | exact HB.out)⟩
       ·rw [if_neg c17] at H
        have c17b0 : (a0_0 == 3) = false := beq_eq_false_iff_ne.mpr c17
        have c17b1 : (a0_0 != 3) = true := bne_iff_ne.mpr c17
        by_cases c24 : a0_0 = 4
        ·rw [if_pos c24] at H
         have c24b0 : (a0_0 == 4) = true := beq_iff_eq.mpr c24
         have c24b1 : (a0_0 != 4) = false := bne_eq_false_iff_eq.mpr c24
         clear c24
         by_cases c25 : a0_1 = 0
         ·rw [if_pos c25] at H
          have c25b0 : (a0_1 == 0) = true := beq_iff_eq.mpr c25
          have c25b1 : (a0_1 != 0) = false := bne_eq_false_iff_eq.mpr c25
          clear c25
          replace H := Option.bind_eq_some_iff.mp H
          obtain ⟨t103,A260,H⟩ := H
          replace H : (if t103 = true then ((qqq.f kj12 a0_2 1 200).bind fun t104 => (some t104)) else (some false)) = some r := H
          have A26 := qq.mk A260
          clear A260
          by_cases c27 : t103 = true
          ·subst c27
           have H1 : ((qqq.f kj12 a0_2 1 200).bind fun t104 => (some t104)) = some r := by rw [if_pos rfl] at H;exact H
           clear H
           have H := H1
           clear H1
           replace H := Option.bind_eq_some_iff.mp H
           obtain ⟨t104,A280,H⟩ := H
           replace H : (some t104) = some r := H
           have A28 := qq.mk A280
           clear A280
           obtain rfl := Option.some.inj H
           have hcz29_0 : wc.cell? ⟨gb101,0,none⟩ = some (.int .i64 a0_0) := (qw BK101.out 0).trans rfl
           have hcz29_1 : wc.cell? ⟨gb101,1,none⟩ = some (.int .i64 a0_1) := (qw BK101.out 1).trans rfl
           have hcz29_2 : wc.cell? ⟨gb101,2,none⟩ = some (.string a0_2) := (qw BK101.out 2).trans rfl
           have hcz29_3 : wc.cell? ⟨gb101,3,none⟩ = some (.string a0_3) := (qw BK101.out 3).trans rfl
           have hfz29_0 := qv BK101.out 0
           have hfz29_1 := qv BK101.out 1
           have hfz29_2 := qv BK101.out 2
           have hfz29_3 := qv BK101.out 3
           go_wp2_with (first | (go_at_call 129;(with_reducible refine (wj.calls kj12 a0_3 true _ A26.out).mono ?_);rintro e w' ⟨rfl,⟨nd,rfl⟩⟩;(try first | exact ⟨rfl,_,World.drewN_drewN _ _ _⟩ | exact ⟨rfl,_,Eq.trans (World.drewN_drewN _ _ _) (congrArg (World.drewN _) (Nat.add_assoc _ _ _))⟩)) | (go_at_call 128;(with_reducible refine (qqq.calls kj12 a0_2 1 200 t104 _ A28.out).mono ?_);rintro e w' ⟨rfl,⟨nd,rfl⟩⟩;(try first | exact ⟨rfl,_,World.drewN_drewN _ _ _⟩ | exact ⟨rfl,_,Eq.trans (World.drewN_drewN _ _ _) (congrArg (World.drewN _) (Nat.add_assoc _ _ _))⟩)))
           repeat (go_quiet (first | (go_at_call 129;(with_reducible refine (wj.calls kj12 a0_3 true _ A26.out).mono ?_);rintro e w' ⟨rfl,⟨nd,rfl⟩⟩;(try first | exact ⟨rfl,_,World.drewN_drewN _ _ _⟩ | exact ⟨rfl,_,Eq.trans (World.drewN_drewN _ _ _) (congrArg (World.drewN _) (Nat.add_assoc _ _ _))⟩)) | (go_at_call 128;(with_reducible refine (qqq.calls kj12 a0_2 1 200 t104 _ A28.out).mono ?_);rintro e w' ⟨rfl,⟨nd,rfl⟩⟩;(try first | exact ⟨rfl,_,World.drewN_drewN _ _ _⟩ | exact ⟨rfl,_,Eq.trans (World.drewN_drewN _ _ _) (congrArg (World.drewN _) (Nat.add_assoc _ _ _))⟩)));try go_wp2_with (first | (go_at_call 129;(with_reducible refine (wj.calls kj12 a0_3 true _ A26.out).mono ?_);rintro e w' ⟨rfl,⟨nd,rfl⟩⟩;(try first | exact ⟨rfl,_,World.drewN_drewN _ _ _⟩ | exact ⟨rfl,_,Eq.trans (World.drewN_drewN _ _ _) (congrArg (World.drewN _) (Nat.add_assoc _ _ _))⟩)) | (go_at_call 128;(with_reducible refine (qqq.calls kj12 a0_2 1 200 t104 _ A28.out).mono ?_);rintro e w' ⟨rfl,⟨nd,rfl⟩⟩;(try first | exact ⟨rfl,_,World.drewN_drewN _ _ _⟩ | exact ⟨rfl,_,Eq.trans (World.drewN_drewN _ _ _) (congrArg (World.drewN _) (Nat.add_assoc _ _ _))⟩))))
           go_ret
           exact ⟨by first | rfl | (simp [*,jx,jw] <;> rfl),by repeat (first | (with_reducible first | exact HB.out | apply qj | apply qz | apply qk | refine qx ?_ GE101.out) | exact HB.out)⟩
          ·replace c27 := Bool.eq_false_iff.mpr c27
           subst c27
           have H1 : (some false) = some r := by rw [if_neg (show ¬ (false = true) by decide)] at H;exact H
           clear H
           have H := H1
           clear H1
           obtain rfl := Option.some.inj H
           have hcz30_0 : wc.cell? ⟨gb101,0,none⟩ = some (.int .i64 a0_0) := (qw BK101.out 0).trans rfl
           have hcz30_1 : wc.cell? ⟨gb101,1,none⟩ = some (.int .i64 a0_1) := (qw BK101.out 1).trans rfl
           have hcz30_2 : wc.cell? ⟨gb101,2,none⟩ = some (.string a0_2) := (qw BK101.out 2).trans rfl
           have hcz30_3 : wc.cell? ⟨gb101,3,none⟩ = some (.string a0_3) := (qw BK101.out 3).trans rfl
           have hfz30_0 := qv BK101.out 0
           have hfz30_1 := qv BK101.out 1
           have hfz30_2 := qv BK101.out 2
           have hfz30_3 := qv BK101.out 3
           go_wp2_with (first | (go_at_call 129;(with_reducible refine (wj.calls kj12 a0_3 false _ A26.out).mono ?_);rintro e w' ⟨rfl,⟨nd,rfl⟩⟩;(try first | exact ⟨rfl,_,World.drewN_drewN _ _ _⟩ | exact ⟨rfl,_,Eq.trans (World.drewN_drewN _ _ _) (congrArg (World.drewN _) (Nat.add_assoc _ _ _))⟩)))
           repeat (go_quiet (first | (go_at_call 129;(with_reducible refine (wj.calls kj12 a0_3 false _ A26.out).mono ?_);rintro e w' ⟨rfl,⟨nd,rfl⟩⟩;(try first | exact ⟨rfl,_,World.drewN_drewN _ _ _⟩ | exact ⟨rfl,_,Eq.trans (World.drewN_drewN _ _ _) (congrArg (World.drewN _) (Nat.add_assoc _ _ _))⟩)));try go_wp2_with (first | (go_at_call 129;(with_reducible refine (wj.calls kj12 a0_3 false _ A26.out).mono ?_);rintro e w' ⟨rfl,⟨nd,rfl⟩⟩;(try first | exact ⟨rfl,_,World.drewN_drewN _ _ _⟩ | exact ⟨rfl,_,Eq.trans (World.drewN_drewN _ _ _) (congrArg (World.drewN _) (Nat.add_assoc _ _ _))⟩))))
           go_ret
           exact ⟨by first | rfl | (simp [*,jx,jw] <;> rfl),by repeat (first | (with_reducible first | exact HB.out | apply qj | apply qz | apply qk | refine qx ?_ GE101.out) | exact HB.out)⟩
         ·rw [if_neg c25] at H
          have c25b0 : (a0_1 == 0) = false := beq_eq_false_iff_ne.mpr c25
          have c25b1 : (a0_1 != 0) = true := bne_iff_ne.mpr c25
          obtain rfl := Option.some.inj H
          have hcz31_0 : wc.cell? ⟨gb101,0,none⟩ = some (.int .i64 a0_0) := (qw BK101.out 0).trans rfl
          have hcz31_1 : wc.cell? ⟨gb101,1,none⟩ = some (.int .i64 a0_1) := (qw BK101.out 1).trans rfl
          have hcz31_2 : wc.cell? ⟨gb101,2,none⟩ = some (.string a0_2) := (qw BK101.out 2).trans rfl
          have hcz31_3 : wc.cell? ⟨gb101,3,none⟩ = some (.string a0_3) := (qw BK101.out 3).trans rfl
          have hfz31_0 := qv BK101.out 0
          have hfz31_1 := qv BK101.out 1
          have hfz31_2 := qv BK101.out 2
          have hfz31_3 := qv BK101.out 3
          go_wp2
          repeat (go_quiet (fail);try go_wp2)
          go_ret
          exact ⟨by first | rfl | (simp [*,jx,jw] <;> rfl),by repeat (first | (with_reducible first | exact HB.out | apply qj | apply qz | apply qk | refine qx ?_ GE101.out) | exact HB.out)⟩
        ·rw [if_neg c24] at H
         have c24b0 : (a0_0 == 4) = false := beq_eq_false_iff_ne.mpr c24
         have c24b1 : (a0_0 != 4) = true := bne_iff_ne.mpr c24
         by_cases c32 : a0_0 = 6
         ·rw [if_pos c32] at H
          have c32b0 : (a0_0 == 6) = true := beq_iff_eq.mpr c32
          have c32b1 : (a0_0 != 6) = false := bne_eq_false_iff_eq.mpr c32
          clear c32
          by_cases c33 : x3_1 = true
          ·subst c33
           have H1 : (if a0_1 < 0 then (some false) else (if (Int.tmod a0_1 64) ≤ 32 then (if (wrap64 (Int.tdiv a0_1 64)) < 4294967296 then (if 0 ≤ (wrap64 (32 - (Int.tmod a0_1 64))) then (if (shl .i64 1 (wrap64 (32 - (Int.tmod a0_1 64)))) = 0 then (none) else (some ((Int.tmod (wrap64 (Int.tdiv a0_1 64)) (shl .i64 1 (wrap64 (32 - (Int.tmod a0_1 64))))) == 0))) else (none)) else (some false)) else (some false))) = some r := by rw [if_pos rfl] at H;exact H
           clear H
           have H := H1
           clear H1
           by_cases c34 : a0_1 < 0
           ·rw [if_pos c34] at H
            have c34b0 : decide (a0_1 < 0) = true := decide_eq_true c34
            clear c34
            obtain rfl := Option.some.inj H
            have hcz35_0 : wc.cell? ⟨gb101,0,none⟩ = some (.int .i64 a0_0) := (qw BK101.out 0).trans rfl
            have hcz35_1 : wc.cell? ⟨gb101,1,none⟩ = some (.int .i64 a0_1) := (qw BK101.out 1).trans rfl
            have hcz35_2 : wc.cell? ⟨gb101,2,none⟩ = some (.string a0_2) := (qw BK101.out 2).trans rfl
            have hcz35_3 : wc.cell? ⟨gb101,3,none⟩ = some (.string a0_3) := (qw BK101.out 3).trans rfl
            have hfz35_0 := qv BK101.out 0
            have hfz35_1 := qv BK101.out 1
            have hfz35_2 := qv BK101.out 2
            have hfz35_3 := qv BK101.out 3
            go_wp2
            repeat (go_quiet (fail);try go_wp2)
            go_ret
            exact ⟨by first | rfl | (simp [*,jx,jw] <;> rfl),by repeat (first | (with_reducible first | exact HB.out | apply qj | apply qz | apply qk | refine qx ?_ GE101.out) | exact HB.out)⟩
           ·rw [if_neg c34] at H
            have c34b0 : decide (a0_1 < 0) = false := decide_eq_false c34
            clear c34
            by_cases c36 : (Int.tmod a0_1 64) ≤ 32
            ·rw [if_pos c36] at H
             have c36b0 : decide ((Int.tmod a0_1 64) ≤ 32) = true := decide_eq_true c36
             clear c36
             by_cases c37 : (wrap64 (Int.tdiv a0_1 64)) < 4294967296
             ·rw [if_pos c37] at H
              have c37b0 : decide ((wrap64 (Int.tdiv a0_1 64)) < 4294967296) = true := decide_eq_true c37
              clear c37
              obtain ⟨ji38,hji38⟩ : ∃ j_ : Int,(wrap64 (32 - (Int.tmod a0_1 64))) = j_ := ⟨_,rfl⟩
              replace H : (if 0 ≤ (ji38) then (if (shl .i64 1 (ji38)) = 0 then (none) else (some ((Int.tmod (wrap64 (Int.tdiv a0_1 64)) (shl .i64 1 (ji38))) == 0))) else (none)) = some r := by first | (rw [hji38] at H;exact H) | (simp only [hji38] at H ⊢;exact H)
              have hji38w : (IntKind.i64.wrap (32 - (Int.tmod a0_1 64))) = ji38 := (i64_w _).trans hji38
              by_cases c39 : 0 ≤ (ji38)
              ·rw [if_pos c39] at H
               have c39b0 := eq_true c39
               have c39b1 : decide (0 ≤ (ji38)) = true := decide_eq_true c39
               clear c39
               obtain ⟨ji40,hji40⟩ : ∃ j_ : Int,(shl .i64 1 (ji38)) = j_ := ⟨_,rfl⟩
               replace H : (if (ji40) = 0 then (none) else (some ((Int.tmod (wrap64 (Int.tdiv a0_1 64)) (ji40)) == 0))) = some r := by first | (rw [hji40] at H;exact H) | (simp only [hji40] at H ⊢;exact H)
               have hji40_ : (IntKind.i64.wrap (1 * 2 ^ min (ji38).toNat 64)) = ji40 := hji40
               have hji40z : (ji38) ≤ 64 → (IntKind.i64.wrap (1 * 2 ^ (ji38).toNat)) = ji40 := shl_small hji40
               have hji40u : (IntKind.i64.wrap (2 ^ min (ji38).toNat 64)) = ji40 := by have h_ := hji40_;rw [Int.one_mul] at h_;exact h_
               have hji40v : (ji38) ≤ 64 → (IntKind.i64.wrap (2 ^ (ji38).toNat)) = ji40 := fun hle_ => by have h_ := hji40z hle_;rw [Int.one_mul] at h_;exact h_
               have hji40y : (wrap64 (1 * 2 ^ min (ji38).toNat 64)) = ji40 := (i64_w _).symm.trans hji40_
               have hji40x : (ji38) ≤ 64 → (wrap64 (1 * 2 ^ (ji38).toNat)) = ji40 := fun h_ => (i64_w _).symm.trans (hji40z h_)
               by_cases c41 : (ji40) = 0
               ·rw [if_pos c41] at H
                exact absurd H (by simp)
               ·rw [if_neg c41] at H
                have c41b0 : ((ji40) == 0) = false := beq_eq_false_iff_ne.mpr c41
                have c41b1 : ((ji40) != 0) = true := bne_iff_ne.mpr c41
                obtain rfl := Option.some.inj H
                have hcz42_0 : wc.cell? ⟨gb101,0,none⟩ = some (.int .i64 a0_0) := (qw BK101.out 0).trans rfl
                have hcz42_1 : wc.cell? ⟨gb101,1,none⟩ = some (.int .i64 a0_1) := (qw BK101.out 1).trans rfl
                have hcz42_2 : wc.cell? ⟨gb101,2,none⟩ = some (.string a0_2) := (qw BK101.out 2).trans rfl
                have hcz42_3 : wc.cell? ⟨gb101,3,none⟩ = some (.string a0_3) := (qw BK101.out 3).trans rfl
                have hfz42_0 := qv BK101.out 0
                have hfz42_1 := qv BK101.out 1
                have hfz42_2 := qv BK101.out 2
                have hfz42_3 := qv BK101.out 3
                go_wp2
                repeat (go_quiet (fail);try go_wp2)
                go_ret
                exact ⟨by first | rfl | (simp [jx,jw] <;> rfl) | (simp only [← hji38,← hji40];first | rfl | (simp [jx,jw] <;> rfl)) | (simp [*,jx,jw] <;> rfl),by repeat (first | (with_reducible first | exact HB.out | apply qj | apply qz | apply qk | refine qx ?_ GE101.out) | exact HB.out)⟩
              ·rw [if_neg c39] at H
               exact absurd H (by simp)
             ·rw [if_neg c37] at H
              have c37b0 : decide ((wrap64 (Int.tdiv a0_1 64)) < 4294967296) = false := decide_eq_false c37
              clear c37
              obtain rfl := Option.some.inj H
              have hcz43_0 : wc.cell? ⟨gb101,0,none⟩ = some (.int .i64 a0_0) := (qw BK101.out 0).trans rfl
              have hcz43_1 : wc.cell? ⟨gb101,1,none⟩ = some (.int .i64 a0_1) := (qw BK101.out 1).trans rfl
              have hcz43_2 : wc.cell? ⟨gb101,2,none⟩ = some (.string a0_2) := (qw BK101.out 2).trans rfl
              have hcz43_3 : wc.cell? ⟨gb101,3,none⟩ = some (.string a0_3) := (qw BK101.out 3).trans rfl
              have hfz43_0 := qv BK101.out 0
              have hfz43_1 := qv BK101.out 1
              have hfz43_2 := qv BK101.out 2
              have hfz43_3 := qv BK101.out 3
              go_wp2
              repeat (go_quiet (fail);try go_wp2)
              go_ret
              exact ⟨by first | rfl | (simp [*,jx,jw] <;> rfl),by repeat (first | (with_reducible first | exact HB.out | apply qj | apply qz | apply qk | refine qx ?_ GE101.out) | exact HB.out)⟩
            ·rw [if_neg c36] at H
             have c36b0 : decide ((Int.tmod a0_1 64) ≤ 32) = false := decide_eq_false c36
             clear c36
             obtain rfl := Option.some.inj H
             have hcz44_0 : wc.cell? ⟨gb101,0,none⟩ = some (.int .i64 a0_0) := (qw BK101.out 0).trans rfl
             have hcz44_1 : wc.cell? ⟨gb101,1,none⟩ = some (.int .i64 a0_1) := (qw BK101.out 1).trans rfl
             have hcz44_2 : wc.cell? ⟨gb101,2,none⟩ = some (.string a0_2) := (qw BK101.out 2).trans rfl
             have hcz44_3 : wc.cell? ⟨gb101,3,none⟩ = some (.string a0_3) := (qw BK101.out 3).trans rfl
             have hfz44_0 := qv BK101.out 0
             have hfz44_1 := qv BK101.out 1
             have hfz44_2 := qv BK101.out 2
             have hfz44_3 := qv BK101.out 3
             go_wp2
             repeat (go_quiet (fail);try go_wp2)
             go_ret
             exact ⟨by first | rfl | (simp [*,jx,jw] <;> rfl),by repeat (first | (with_reducible first | exact HB.out | apply qj | apply qz | apply qk | refine qx ?_ GE101.out) | exact HB.out)⟩
          ·replace c33 := Bool.eq_false_iff.mpr c33
           subst c33
           have H1 : (some false) = some r := by rw [if_neg (show ¬ (false = true) by decide)] at H;exact H
           clear H
           have H := H1
           clear H1
           obtain rfl := Option.some.inj H
           go_wp2
           repeat (go_quiet (fail);try go_wp2)
           go_ret
           exact ⟨by first | rfl | (simp [*,jx,jw] <;> rfl),by repeat (first | (with_reducible first | exact HB.out | apply qj | apply qz | apply qk | refine qx ?_ GE101.out) | exact HB.out)⟩
         ·rw [if_neg c32] at H
          have c32b0 : (a0_0 == 6) = false := beq_eq_false_iff_ne.mpr c32
          have c32b1 : (a0_0 != 6) = true := bne_iff_ne.mpr c32
          by_cases c45 : a0_0 = 7
          ·rw [if_pos c45] at H
           have c45b0 : (a0_0 == 7) = true := beq_iff_eq.mpr c45
           have c45b1 : (a0_0 != 7) = false := bne_eq_false_iff_eq.mpr c45
           clear c45
           by_cases c46 : x3_1 = true
           ·subst c46
            have H1 : (if a0_1 ≥ (-100000000000) then (some (decide (a0_1 ≤ 100000000000))) else (some false)) = some r := by rw [if_pos rfl] at H;exact H
            clear H
            have H := H1
            clear H1
            by_cases c47 : a0_1 ≥ (-100000000000)
            ·rw [if_pos c47] at H
             have c47b0 : decide ((-100000000000) ≤ a0_1) = true := decide_eq_true c47
             clear c47
             obtain rfl := Option.some.inj H
             have hcz48_0 : wc.cell? ⟨gb101,0,none⟩ = some (.int .i64 a0_0) := (qw BK101.out 0).trans rfl
             have hcz48_1 : wc.cell? ⟨gb101,1,none⟩ = some (.int .i64 a0_1) := (qw BK101.out 1).trans rfl
             have hcz48_2 : wc.cell? ⟨gb101,2,none⟩ = some (.string a0_2) := (qw BK101.out 2).trans rfl
             have hcz48_3 : wc.cell? ⟨gb101,3,none⟩ = some (.string a0_3) := (qw BK101.out 3).trans rfl
             have hfz48_0 := qv BK101.out 0
             have hfz48_1 := qv BK101.out 1
             have hfz48_2 := qv BK101.out 2
             have hfz48_3 := qv BK101.out 3
             go_wp2
             repeat (go_quiet (fail);try go_wp2)
             go_ret
             exact ⟨by first | rfl | (simp [*,jx,jw] <;> rfl),by repeat (first | (with_reducible first | exact HB.out | apply qj | apply qz | apply qk | refine qx ?_ GE101.out) | exact HB.out)⟩
            ·rw [if_neg c47] at H
             have c47b0 : decide ((-100000000000) ≤ a0_1) = false := decide_eq_false c47
             clear c47
             obtain rfl := Option.some.inj H
             have hcz49_0 : wc.cell? ⟨gb101,0,none⟩ = some (.int .i64 a0_0) := (qw BK101.out 0).trans rfl
             have hcz49_1 : wc.cell? ⟨gb101,1,none⟩ = some (.int .i64 a0_1) := (qw BK101.out 1).trans rfl
             have hcz49_2 : wc.cell? ⟨gb101,2,none⟩ = some (.string a0_2) := (qw BK101.out 2).trans rfl
             have hcz49_3 : wc.cell? ⟨gb101,3,none⟩ = some (.string a0_3) := (qw BK101.out 3).trans rfl
             have hfz49_0 := qv BK101.out 0
             have hfz49_1 := qv BK101.out 1
             have hfz49_2 := qv BK101.out 2
             have hfz49_3 := qv BK101.out 3
             go_wp2
             repeat (go_quiet (fail);try go_wp2)
             go_ret
             exact ⟨by first | rfl | (simp [*,jx,jw] <;> rfl),by repeat (first | (with_reducible first | exact HB.out | apply qj | apply qz | apply qk | refine qx ?_ GE101.out) | exact HB.out)⟩
           ·replace c46 := Bool.eq_false_iff.mpr c46
            subst c46
            have H1 : (some false) = some r := by rw [if_neg (show ¬ (false = true) by decide)] at H;exact H
            clear H
            have H := H1
            clear H1
            obtain rfl := Option.some.inj H
            go_wp2
            repeat (go_quiet (fail);try go_wp2)
            go_ret
            exact ⟨by first | rfl | (simp [*,jx,jw] <;> rfl),by repeat (first | (with_reducible first | exact HB.out | apply qj | apply qz | apply qk | refine qx ?_ GE101.out) | exact HB.out)⟩
          ·rw [if_neg c45] at H
           have c45b0 : (a0_0 == 7) = false := beq_eq_false_iff_ne.mpr c45
           have c45b1 : (a0_0 != 7) = true := bne_iff_ne.mpr c45
           obtain rfl := Option.some.inj H
           go_wp2
           repeat (go_quiet (fail);try go_wp2)
           go_ret
           exact ⟨by first | rfl | (simp [*,jx,jw] <;> rfl),by repeat (first | (with_reducible first | exact HB.out | apply qj | apply qz | apply qk | refine qx ?_ GE101.out) | exact HB.out)⟩
end Go.Proofs.Ytccbjchlcelkgaa.Pr
namespace Go.Proofs.Ytccbjchlcelkgaa.Pr
open Go.RowKit Go.Proofs.YtccbjchlcelkgaaW.PrintWords Go.Proofs.YtccbjchlcelkgaaW.PrintLast Go.Proofs.YtccbjchlcelkgaaW.PrintMore
attribute [local go_sem] max2_int min2_int max_two min_two max_three min_three max_four min_four
set_option linter.unusedVariables false
set_option linter.unusedSimpArgs false
def wk.f (k : Nat) (a0_0 : Int) (a0_1 : Int) (a0_2 : ByteArray) (a0_3 : ByteArray) : Option (Bool) := (vx.f k a0_0 a0_1 a0_2 a0_3).bind fun t102 => (some (!t102))
theorem wk.mono : ∀ a0 a1 a2 a3 k,LeO (wk.f k a0 a1 a2 a3) (wk.f (k + 1) a0 a1 a2 a3) := by
 intro a0 a1 a2 a3 k
 unfold wk.f
 repeat' first
   | (with_reducible exact vx.mono _ _ _ _ _)
   | (with_reducible exact LeO.refl _)
   | (with_reducible exact LeO.none _)
   | (with_reducible refine LeO.ite ?_ ?_)
   | (with_reducible refine LeO.bind ?_ (fun _ => ?_))
   | exact vx.mono _ _ _ _ _
   | exact LeO.none _
   | refine LeO.ite ?_ ?_
   | refine LeO.bind ?_ (fun _ => ?_)
set_option maxHeartbeats 8000000 in
set_option maxRecDepth 100000 in
theorem wk.calls (k : Nat) (a0_0 : Int) (a0_1 : Int) (a0_2 : ByteArray) (a0_3 : ByteArray) (r : Bool) (w : World) (h : wk.f k a0_0 a0_1 a0_2 a0_3 = some r) :
  Calls Try.prog 185 #[.agg #[.int .i64 a0_0,.int .i64 a0_1,.string a0_2,.string a0_3]] w fun e w' => e = .returned (.bool r) ∧ Below w.heap.size w w' := by
 have hu34 := Try.underlying34
 have HB := qq.mk (Below.refl w.heap.size w)
 have H : ((vx.f k a0_0 a0_1 a0_2 a0_3).bind fun t102 => (some (!t102))) = some r := h
 clear h
 replace H := Option.bind_eq_some_iff.mp H
 obtain ⟨t102,A20,H⟩ := H
 replace H : (some (!t102)) = some r := H
 have A2 := qq.mk A20
 clear A20
 obtain rfl := Option.some.inj H
 go_enter Try.func185,Try.ntmps185
 go_wp2_with (first | ((with_reducible refine gate_dst (N := 1) rfl ?_);refine box_event ?hg (N := 1) ?hd (cs := #[.int .i64 a0_0,.int .i64 a0_1,.string a0_2,.string a0_3]) (t := 34) ?hr ?_;(case hd => rfl);(case hg => rfl);(case hr => first | (go_simp;done) | (go_simp;rfl));intro gb101 hg w3 hbox hb;have n0_ := qq.mk (zv (by repeat (first | (with_reducible first | exact HB.out | apply qj | apply qz | apply qk) | exact HB.out)) hb);have n1_ := qq.mk (hbox);have n2_ := qq.mk ((by rw [hg];exact (zw (by repeat (first | (with_reducible first | exact HB.out | apply qj | apply qz | apply qk) | exact HB.out))) : w.heap.size ≤ gb101));have n3_ := qq.mk ((by rw [hg];exact (zw (by repeat (first | (with_reducible first | exact HB.out | apply qj | apply qz | apply qk) | exact HB.out))) : w.heap.size ≤ gb101));clear HB;have HB := n0_;have BK101 := n1_;have GW101 := n2_;have GE101 := n3_;clear n0_ n1_ n2_ n3_;clear hb hbox hg;have hcz4_0 : w3.cell? ⟨gb101,0,none⟩ = some (.int .i64 a0_0) := (qw BK101.out 0).trans rfl;have hcz4_1 : w3.cell? ⟨gb101,1,none⟩ = some (.int .i64 a0_1) := (qw BK101.out 1).trans rfl;have hcz4_2 : w3.cell? ⟨gb101,2,none⟩ = some (.string a0_2) := (qw BK101.out 2).trans rfl;have hcz4_3 : w3.cell? ⟨gb101,3,none⟩ = some (.string a0_3) := (qw BK101.out 3).trans rfl;have hfz4_0 := qv BK101.out 0;have hfz4_1 := qv BK101.out 1;have hfz4_2 := qv BK101.out 2;have hfz4_3 := qv BK101.out 3) | ((with_reducible refine kz (f := 70) rfl ?_);refine goesL_ (some 4) rfl rfl Try.func70 (by kernel_rfl) rfl #[.agg #[.int .i64 a0_0,.int .i64 a0_1,.string a0_2,.string a0_3]] rfl (by (try simp only [List.map_toArray,List.map_cons,List.map_nil]);first | done | rfl | (simp only [List.length_drop,List.length_take];rfl)) ?_;(with_reducible refine (vx.calls k a0_0 a0_1 a0_2 a0_3 t102 _ A2.out).mono ?_);rintro e w5 ⟨rfl,hb⟩;refine ⟨_,rfl,?_⟩;have n0_ := qq.mk (kw (g := gb101) (o := .cells #[.int .i64 a0_0,.int .i64 a0_1,.string a0_2,.string a0_3] 34 (0,0)) (by (with_reducible repeat (first | refine zz ?_ _ | refine zj ?_ | refine zq ?_ _));exact BK101.out) hb);have n1_ := qq.mk (zv (by repeat (first | (with_reducible first | exact HB.out | apply qj | apply qz | apply qk | refine qx ?_ GE101.out) | exact HB.out)) hb);clear BK101;clear HB;have BK101 := n0_;have HB := n1_;clear n0_ n1_;(try clear hb);(try clear hb2);(try clear hk);(try clear hi)))
 go_ret
 exact ⟨by first | rfl | (simp [*,jx,jw] <;> rfl),by repeat (first | (with_reducible first | exact HB.out | apply qj | apply qz | apply qk | refine qx ?_ GE101.out) | exact HB.out)⟩
end Go.Proofs.Ytccbjchlcelkgaa.Pr
namespace Go.Proofs.Ytccbjchlcelkgaa.Pr
open Go.RowKit Go.Proofs.YtccbjchlcelkgaaW.PrintWords Go.Proofs.YtccbjchlcelkgaaW.PrintLast Go.Proofs.YtccbjchlcelkgaaW.PrintMore
attribute [local go_sem] max2_int min2_int max_two min_two max_three min_three max_four min_four
set_option linter.unusedVariables false
set_option linter.unusedSimpArgs false
def xj.f (k : Nat) (a0 : ByteArray) : Option (Bool) := (wj.f k a0).bind fun t101 => (some (!t101))
theorem xj.mono : ∀ a0 k,LeO (xj.f k a0) (xj.f (k + 1) a0) := by
 intro a0 k
 unfold xj.f
 repeat' first
   | (with_reducible exact wj.mono _ _)
   | (with_reducible exact LeO.refl _)
   | (with_reducible exact LeO.none _)
   | (with_reducible refine LeO.ite ?_ ?_)
   | (with_reducible refine LeO.bind ?_ (fun _ => ?_))
   | exact wj.mono _ _
   | exact LeO.none _
   | refine LeO.ite ?_ ?_
   | refine LeO.bind ?_ (fun _ => ?_)
set_option maxHeartbeats 8000000 in
set_option maxRecDepth 100000 in
theorem xj.calls (k : Nat) (a0 : ByteArray) (r : Bool) (w : World) (h : xj.f k a0 = some r) :
  Calls Try.prog 202 #[.string a0] w fun e w' => e = .returned (.bool r) ∧ Drawn0 w w' := by
 have H : ((wj.f k a0).bind fun t101 => (some (!t101))) = some r := h
 clear h
 replace H := Option.bind_eq_some_iff.mp H
 obtain ⟨t101,A20,H⟩ := H
 replace H : (some (!t101)) = some r := H
 have A2 := qq.mk A20
 clear A20
 obtain rfl := Option.some.inj H
 go_enter Try.func202,Try.ntmps202
 go_wp2_with (first | ((with_reducible refine kz (f := 129) rfl ?_);refine goesL_ (some 4) rfl rfl Try.func129 (by kernel_rfl) rfl #[.string a0] rfl (by (try simp only [List.map_toArray,List.map_cons,List.map_nil]);first | done | rfl | (simp only [List.length_drop,List.length_take];rfl)) ?_;(with_reducible refine (wj.calls k a0 t101 _ A2.out).mono ?_);rintro e w' ⟨rfl,⟨nd,rfl⟩⟩;refine ⟨_,rfl,?_⟩))
 go_ret
 exact ⟨by first | rfl | (simp;done) | (simp [*];done),by repeat (first | exact Drawn0.refl _ | apply Drawn0.step)⟩
end Go.Proofs.Ytccbjchlcelkgaa.Pr
namespace Go.Proofs.Ytccbjchlcelkgaa.Pr
open Go.RowKit Go.Proofs.YtccbjchlcelkgaaW.PrintWords Go.Proofs.YtccbjchlcelkgaaW.PrintLast Go.Proofs.YtccbjchlcelkgaaW.PrintMore
attribute [local go_sem] max2_int min2_int max_two min_two max_three min_three max_four min_four
set_option linter.unusedVariables false
set_option linter.unusedSimpArgs false
def xq.f (k : Nat) (a0_0 : Int) (a0_1 : Int) (a0_2 : ByteArray) (a0_3 : ByteArray) : Option (Bool) := (vx.f k a0_0 a0_1 a0_2 a0_3).bind fun t102 => (some (!t102))
theorem xq.mono : ∀ a0 a1 a2 a3 k,LeO (xq.f k a0 a1 a2 a3) (xq.f (k + 1) a0 a1 a2 a3) := by
 intro a0 a1 a2 a3 k
 unfold xq.f
 repeat' first
   | (with_reducible exact vx.mono _ _ _ _ _)
   | (with_reducible exact LeO.refl _)
   | (with_reducible exact LeO.none _)
   | (with_reducible refine LeO.ite ?_ ?_)
   | (with_reducible refine LeO.bind ?_ (fun _ => ?_))
   | exact vx.mono _ _ _ _ _
   | exact LeO.none _
   | refine LeO.ite ?_ ?_
   | refine LeO.bind ?_ (fun _ => ?_)
set_option maxHeartbeats 8000000 in
set_option maxRecDepth 100000 in
theorem xq.calls (k : Nat) (a0_0 : Int) (a0_1 : Int) (a0_2 : ByteArray) (a0_3 : ByteArray) (r : Bool) (w : World) (h : xq.f k a0_0 a0_1 a0_2 a0_3 = some r) :
  Calls Try.prog 89 #[.agg #[.int .i64 a0_0,.int .i64 a0_1,.string a0_2,.string a0_3]] w fun e w' => e = .returned (.bool r) ∧ Below w.heap.size w w' := by
 have hu34 := Try.underlying34
 have HB := qq.mk (Below.refl w.heap.size w)
 have H : ((vx.f k a0_0 a0_1 a0_2 a0_3).bind fun t102 => (some (!t102))) = some r := h
 clear h
 replace H := Option.bind_eq_some_iff.mp H
 obtain ⟨t102,A20,H⟩ := H
 replace H : (some (!t102)) = some r := H
 have A2 := qq.mk A20
 clear A20
 obtain rfl := Option.some.inj H
 go_enter Try.func89,Try.ntmps89
 go_wp2_with (first | ((with_reducible refine gate_dst (N := 1) rfl ?_);refine box_event ?hg (N := 1) ?hd (cs := #[.int .i64 a0_0,.int .i64 a0_1,.string a0_2,.string a0_3]) (t := 34) ?hr ?_;(case hd => rfl);(case hg => rfl);(case hr => first | (go_simp;done) | (go_simp;rfl));intro gb101 hg w3 hbox hb;have n0_ := qq.mk (zv (by repeat (first | (with_reducible first | exact HB.out | apply qj | apply qz | apply qk) | exact HB.out)) hb);have n1_ := qq.mk (hbox);have n2_ := qq.mk ((by rw [hg];exact (zw (by repeat (first | (with_reducible first | exact HB.out | apply qj | apply qz | apply qk) | exact HB.out))) : w.heap.size ≤ gb101));have n3_ := qq.mk ((by rw [hg];exact (zw (by repeat (first | (with_reducible first | exact HB.out | apply qj | apply qz | apply qk) | exact HB.out))) : w.heap.size ≤ gb101));clear HB;have HB := n0_;have BK101 := n1_;have GW101 := n2_;have GE101 := n3_;clear n0_ n1_ n2_ n3_;clear hb hbox hg;have hcz4_0 : w3.cell? ⟨gb101,0,none⟩ = some (.int .i64 a0_0) := (qw BK101.out 0).trans rfl;have hcz4_1 : w3.cell? ⟨gb101,1,none⟩ = some (.int .i64 a0_1) := (qw BK101.out 1).trans rfl;have hcz4_2 : w3.cell? ⟨gb101,2,none⟩ = some (.string a0_2) := (qw BK101.out 2).trans rfl;have hcz4_3 : w3.cell? ⟨gb101,3,none⟩ = some (.string a0_3) := (qw BK101.out 3).trans rfl;have hfz4_0 := qv BK101.out 0;have hfz4_1 := qv BK101.out 1;have hfz4_2 := qv BK101.out 2;have hfz4_3 := qv BK101.out 3) | ((with_reducible refine kz (f := 70) rfl ?_);refine goesL_ (some 4) rfl rfl Try.func70 (by kernel_rfl) rfl #[.agg #[.int .i64 a0_0,.int .i64 a0_1,.string a0_2,.string a0_3]] rfl (by (try simp only [List.map_toArray,List.map_cons,List.map_nil]);first | done | rfl | (simp only [List.length_drop,List.length_take];rfl)) ?_;(with_reducible refine (vx.calls k a0_0 a0_1 a0_2 a0_3 t102 _ A2.out).mono ?_);rintro e w5 ⟨rfl,hb⟩;refine ⟨_,rfl,?_⟩;have n0_ := qq.mk (kw (g := gb101) (o := .cells #[.int .i64 a0_0,.int .i64 a0_1,.string a0_2,.string a0_3] 34 (0,0)) (by (with_reducible repeat (first | refine zz ?_ _ | refine zj ?_ | refine zq ?_ _));exact BK101.out) hb);have n1_ := qq.mk (zv (by repeat (first | (with_reducible first | exact HB.out | apply qj | apply qz | apply qk | refine qx ?_ GE101.out) | exact HB.out)) hb);clear BK101;clear HB;have BK101 := n0_;have HB := n1_;clear n0_ n1_;(try clear hb);(try clear hb2);(try clear hk);(try clear hi)))
 go_ret
 exact ⟨by first | rfl | (simp [*,jx,jw] <;> rfl),by repeat (first | (with_reducible first | exact HB.out | apply qj | apply qz | apply qk | refine qx ?_ GE101.out) | exact HB.out)⟩
end Go.Proofs.Ytccbjchlcelkgaa.Pr
namespace Go.Proofs.Ytccbjchlcelkgaa.Pr
open Go.RowKit Go.Proofs.YtccbjchlcelkgaaW.PrintWords Go.Proofs.YtccbjchlcelkgaaW.PrintLast Go.Proofs.YtccbjchlcelkgaaW.PrintMore
set_option linter.unusedVariables false
def has_impl_SetOf_1.f (k : Nat) (l : List S34) : Option Bool := anyO (fun x : S34 => xq.f k x.f0 x.f1 x.f2 x.f3) l
theorem has_impl_SetOf_1.mono (l : List S34) (k : Nat) : LeO (has_impl_SetOf_1.f k l) (has_impl_SetOf_1.f (k + 1) l) := anyO_mono (p := fun x : S34 => xq.f k x.f0 x.f1 x.f2 x.f3) (q := fun x : S34 => xq.f (k + 1) x.f0 x.f1 x.f2 x.f3) (fun x => xq.mono x.f0 x.f1 x.f2 x.f3 k) l
theorem has_impl_SetOf_1.calls (k : Nat) (A0 : Option Addr) (c0 : Nat) (l0 : List S34) (r : Bool) (w : World) (hr0 : Kd.C k34 w A0 l0.length l0) (hc0 : l0.length ≤ c0) (h : has_impl_SetOf_1.f k l0 = some r) :
  Calls Try.prog 88 #[.slice A0 l0.length c0,.func (.func 89) #[] #[]] w fun e w' => e = .returned (.bool r) ∧ Below w.heap.size w w' :=
 containsT34_calls 89 (fun x : S34 => xq.f k x.f0 x.f1 x.f2 x.f3) (enters_of Try.func89 (by kernel_rfl) rfl) (fun x b W hb => xq.calls k x.f0 x.f1 x.f2 x.f3 b W hb) A0 c0 l0 r w hr0 h
def has_impl_GoodDirName_1.f (k : Nat) (l : List S122) : Option Bool := anyO (fun x : S122 => wz.f k x.f0 x.f1) l
theorem has_impl_GoodDirName_1.mono (l : List S122) (k : Nat) : LeO (has_impl_GoodDirName_1.f k l) (has_impl_GoodDirName_1.f (k + 1) l) := anyO_mono (p := fun x : S122 => wz.f k x.f0 x.f1) (q := fun x : S122 => wz.f (k + 1) x.f0 x.f1) (fun x => wz.mono x.f0 x.f1 k) l
theorem has_impl_GoodDirName_1.calls (k : Nat) (A0 : Option Addr) (c0 : Nat) (l0 : List S122) (r : Bool) (w : World) (hr0 : Kd.C k122 w A0 l0.length l0) (hc0 : l0.length ≤ c0) (h : has_impl_GoodDirName_1.f k l0 = some r) :
  Calls Try.prog 144 #[.slice A0 l0.length c0,.func (.func 145) #[] #[]] w fun e w' => e = .returned (.bool r) ∧ Below w.heap.size w w' :=
 containsT122_calls 145 (fun x : S122 => wz.f k x.f0 x.f1) (enters_of Try.func145 (by kernel_rfl) rfl) (fun x b W hb => wz.calls k x.f0 x.f1 b W hb) A0 c0 l0 r w hr0 h
def has_impl_yallNames_1.f (k : Nat) (l : List ByteArray) : Option Bool := anyO (xj.f k) l
theorem has_impl_yallNames_1.mono (l : List ByteArray) (k : Nat) : LeO (has_impl_yallNames_1.f k l) (has_impl_yallNames_1.f (k + 1) l) := anyO_mono (p := xj.f k) (q := xj.f (k + 1)) (fun x => xj.mono x k) l
theorem has_impl_yallNames_1.calls (k : Nat) (A0 : Option Addr) (c0 : Nat) (l0 : List ByteArray) (r : Bool) (w : World) (hr0 : Kd.C Kd.string w A0 l0.length l0) (hc0 : l0.length ≤ c0) (h : has_impl_yallNames_1.f k l0 = some r) :
  Calls Try.prog 201 #[.slice A0 l0.length c0,.func (.func 202) #[] #[]] w fun e w' => e = .returned (.bool r) ∧ Drawn0 w w' :=
 containsStr_calls 202 (xj.f k) (enters_of Try.func202 (by kernel_rfl) rfl) (fun x b W hb => xj.calls k x b W hb) A0 c0 l0 r w hr0 h
def has_impl_GoodValue_1.f (k : Nat) (l : List S34) : Option Bool := anyO (fun x : S34 => wk.f k x.f0 x.f1 x.f2 x.f3) l
theorem has_impl_GoodValue_1.mono (l : List S34) (k : Nat) : LeO (has_impl_GoodValue_1.f k l) (has_impl_GoodValue_1.f (k + 1) l) := anyO_mono (p := fun x : S34 => wk.f k x.f0 x.f1 x.f2 x.f3) (q := fun x : S34 => wk.f (k + 1) x.f0 x.f1 x.f2 x.f3) (fun x => wk.mono x.f0 x.f1 x.f2 x.f3 k) l
theorem has_impl_GoodValue_1.calls (k : Nat) (A0 : Option Addr) (c0 : Nat) (l0 : List S34) (r : Bool) (w : World) (hr0 : Kd.C k34 w A0 l0.length l0) (hc0 : l0.length ≤ c0) (h : has_impl_GoodValue_1.f k l0 = some r) :
  Calls Try.prog 88 #[.slice A0 l0.length c0,.func (.func 185) #[] #[]] w fun e w' => e = .returned (.bool r) ∧ Below w.heap.size w w' :=
 containsT34_calls 185 (fun x : S34 => wk.f k x.f0 x.f1 x.f2 x.f3) (enters_of Try.func185 (by kernel_rfl) rfl) (fun x b W hb => wk.calls k x.f0 x.f1 x.f2 x.f3 b W hb) A0 c0 l0 r w hr0 h
end Go.Proofs.Ytccbjchlcelkgaa.Pr
namespace Go.Proofs.Ytccbjchlcelkgaa.Pr
open Go.RowKit Go.Proofs.YtccbjchlcelkgaaW.PrintWords Go.Proofs.YtccbjchlcelkgaaW.PrintLast Go.Proofs.YtccbjchlcelkgaaW.PrintMore
attribute [local go_sem] max2_int min2_int max_two min_two max_three min_three max_four min_four
set_option linter.unusedVariables false
set_option linter.unusedSimpArgs false
def wq.f (k : Nat) (l0 : List (S122)) : Option (Bool) := if (l0.length : Int) ≤ 8 then ((has_impl_GoodDirName_1.f k l0).bind fun t101 => (some (!t101))) else (some false)
set_option maxHeartbeats 8000000 in
set_option maxRecDepth 100000 in
theorem wq.calls (k : Nat) (A0 : Option Addr) (c0 : Nat) (l0 : List (S122)) (r : Bool) (w : World) (hr0 : Kd.C k122 w A0 l0.length l0) (hc0 : l0.length ≤ c0) (h : wq.f k l0 = some r) :
  Calls Try.prog 101 #[.slice A0 l0.length c0] w fun e w' => e = .returned (.bool r) ∧ Below w.heap.size w w' := by
 have HR0 := qq.mk hr0
 have HC0 := qq.mk hc0
 clear hr0 hc0
 have HB := qq.mk (Below.refl w.heap.size w)
 have H : (if (l0.length : Int) ≤ 8 then ((has_impl_GoodDirName_1.f k l0).bind fun t101 => (some (!t101))) else (some false)) = some r := h
 clear h
 by_cases c2 : (l0.length : Int) ≤ 8
 ·rw [if_pos c2] at H
  have c2b0 : decide ((l0.length : Int) ≤ 8) = true := decide_eq_true c2
  have c2b1 : decide (l0.length ≤ 8) = true := decide_eq_true (by omega)
  clear c2
  replace H := Option.bind_eq_some_iff.mp H
  obtain ⟨t101,A30,H⟩ := H
  replace H : (some (!t101)) = some r := H
  have A3 := qq.mk A30
  clear A30
  obtain rfl := Option.some.inj H
  go_enter Try.func101,Try.ntmps101
  go_wp2_with (first | (go_at_call 144;(with_reducible refine (has_impl_GoodDirName_1.calls k _ _ l0 t101 _ ?side1 ?side2 A3.out).mono ?_);(case side1 => repeat (first | exact HR0.out | (with_reducible refine Kd.C_alloc ?_ _) | (with_reducible refine Kd.C_drewN ?_ _) | (with_reducible refine Kd.C_drew ?_)));(case side2 => exact HC0.out);rintro e w4 ⟨rfl,hb⟩;have n0_ := qq.mk (zv (by repeat (first | (with_reducible first | exact HB.out | apply qj | apply qz | apply qk) | exact HB.out)) hb);clear HB;have HB := n0_;clear n0_;(try clear hb);(try clear hb2);(try clear hk);(try clear hi)))
  go_ret
  exact ⟨by first | rfl | (simp [*,jx,jw] <;> rfl),by repeat (first | (with_reducible first | exact HB.out | apply qj | apply qz | apply qk) | exact HB.out)⟩
 ·rw [if_neg c2] at H
  have c2b0 : decide ((l0.length : Int) ≤ 8) = false := decide_eq_false c2
  have c2b1 : decide (l0.length ≤ 8) = false := decide_eq_false (by omega)
  clear c2
  obtain rfl := Option.some.inj H
  go_enter Try.func101,Try.ntmps101
  go_wp2
  go_ret
  exact ⟨by first | rfl | (simp [*,jx,jw] <;> rfl),by repeat (first | (with_reducible first | exact HB.out | apply qj | apply qz | apply qk) | exact HB.out)⟩
end Go.Proofs.Ytccbjchlcelkgaa.Pr
namespace Go.Proofs.Ytccbjchlcelkgaa.Pr
open Go.RowKit Go.Proofs.YtccbjchlcelkgaaW.PrintWords Go.Proofs.YtccbjchlcelkgaaW.PrintLast Go.Proofs.YtccbjchlcelkgaaW.PrintMore
attribute [local go_sem] max2_int min2_int max_two min_two max_three min_three max_four min_four
set_option linter.unusedVariables false
set_option linter.unusedSimpArgs false
def wv.l0 : Nat → List ByteArray → List (S122) → Int → Int → Option (ByteArray)
 | 0,_,_,_,_ => none
 | k + 1,x3,x9,x10,x11 => if x11 < x10 then (if 0 ≤ x11 then (if x11 < (x9.length : Int) then (if ((vz x9 x11).f0).size + 1 ≤ 9223372036854775807 then ((xv.f ((vz x9 x11).f1) (⟨#[44,92]⟩ : ByteArray)).bind fun t104 => (if (((vz x9 x11).f0) ++ (⟨#[61]⟩ : ByteArray)).size + t104.size ≤ 9223372036854775807 then (if x3.length < 8796093022208 then (wv.l0 k (x3 ++ [(((vz x9 x11).f0) ++ (⟨#[61]⟩ : ByteArray)) ++ t104]) x9 x10 (wrap64 (x11 + 1))) else (none)) else (none))) else (none)) else (none)) else (none)) else ((qkj.f x3 (⟨#[44]⟩ : ByteArray)).bind fun t108 => (some t108))
def wv.f (k : Nat) (l0 : List (S122)) : Option (ByteArray) := (wq.f k l0).bind fun t101 => (if t101 = true then (wv.l0 k ([] : List ByteArray) l0 (l0.length : Int) 0) else (some (⟨#[]⟩ : ByteArray)))
def wv.T7 : Bool × List (List Nat × List Nat) := (true,[([],[]),([],[]),([1],[1]),([2],[2]),([],[]),([4],[4]),([5],[5]),([3,6],[3,6]),([7],[7]),([0,8,6],[0,8]),([9,9,0,1,2,3,4,5,6,7,8,9],[0,9])])
def wv.B7 : List Nat := [0,0,2,6,0,16,48,126,254,511,1023]
theorem wv.tab7 : rtab .any (opsOf Try.f42 7) = wv.T7 := by kernel_rfl
theorem wv.bits7 : waitsOk wv.T7.2 wv.B7 = true := by kernel_rfl
set_option maxHeartbeats 8000000 in
set_option maxRecDepth 100000 in
theorem wv.calls (k : Nat) (A0 : Option Addr) (c0 : Nat) (l0 : List (S122)) (r : ByteArray) (w : World) (hr0 : Kd.C k122 w A0 l0.length l0) (hc0 : l0.length ≤ c0) (h : wv.f k l0 = some r) :
  Calls Try.prog 42 #[.slice A0 l0.length c0] w fun e w' => e = .returned (.string r) ∧ Below w.heap.size w w' := by
 have hu122 := Try.underlying122
 have HR0 := qq.mk hr0
 have HC0 := qq.mk hc0
 clear hr0 hc0
 have HB := qq.mk (Below.refl w.heap.size w)
 have H : ((wq.f k l0).bind fun t101 => (if t101 = true then (wv.l0 k ([] : List ByteArray) l0 (l0.length : Int) 0) else (some (⟨#[]⟩ : ByteArray)))) = some r := h
 clear h
 replace H := Option.bind_eq_some_iff.mp H
 obtain ⟨t101,A20,H⟩ := H
 replace H : (if t101 = true then (wv.l0 k ([] : List ByteArray) l0 (l0.length : Int) 0) else (some (⟨#[]⟩ : ByteArray))) = some r := H
 have A2 := qq.mk A20
 clear A20
 by_cases c3 : t101 = true
 ·subst c3
  have H1 : (wv.l0 k ([] : List ByteArray) l0 (l0.length : Int) 0) = some r := by rw [if_pos rfl] at H;exact H
  clear H
  have H := H1
  clear H1
  have H' := qq.mk H
  clear H
  go_enter Try.func42,Try.ntmps42
  go_wp2_with (first | ((with_reducible refine kz (f := 101) rfl ?_);refine goesL_ (some 7) rfl rfl Try.func101 (by kernel_rfl) rfl #[.slice A0 l0.length c0] rfl (by (try simp only [List.map_toArray,List.map_cons,List.map_nil]);first | done | rfl | (simp only [List.length_drop,List.length_take];rfl)) ?_;(with_reducible refine (wq.calls k _ _ l0 true _ ?side1 ?side2 A2.out).mono ?_);(case side1 => repeat (first | exact HR0.out | (with_reducible refine Kd.C_alloc ?_ _) | (with_reducible refine Kd.C_drewN ?_ _) | (with_reducible refine Kd.C_drew ?_)));(case side2 => exact HC0.out);rintro e w4 ⟨rfl,hb⟩;refine ⟨_,rfl,?_⟩;have n0_ := qq.mk (zv (by repeat (first | (with_reducible first | exact HB.out | apply qj | apply qz | apply qk) | exact HB.out)) hb);clear HB;have HB := n0_;clear n0_;(try clear hb);(try clear hb2);(try clear hk);(try clear hi)))
  go_loopg [3,11] k (fun kq v3 v11 w' => ∃ (x3_1 : List ByteArray) (x11_1 : Int),v11 = .int .i64 x11_1 ∧ qq (wv.l0 kq x3_1 l0 (l0.length : Int) x11_1 = some r) ∧ qq (kq ≤ k) ∧ qq (Kd.R Kd.string 9 w' w.heap.size (fun _ => True) v3 x3_1) ∧ qq (Below w.heap.size w w'))
  case atStart => exact ⟨(([] : List ByteArray)),(0),(by first | rfl | (simp;done) | (simp [*];done)),H',⟨Nat.le_refl _⟩,⟨by first | exact Kd.R_nil _ _ _ _ _ | exact Kd.N_nil _ _ _ _ _ | exact Kd.V_nil _ _ _ _ _ | exact Kd.Q_nil _ _ _ _ _ | exact Kd.S_nil _ _ _ _ _⟩,⟨by repeat (first | (with_reducible first | exact HB.out | apply qj | apply qz | apply qk) | exact HB.out)⟩⟩
  case round =>
   clear H'
   try clear c1
   try clear p2
   try clear c3
   try clear c4
   obtain ⟨x3_1,x11_1,rfl,HA,HK1,HO_3,HB⟩ := hrel
   cases gk with
   | zero => exact absurd HA.out (by simp [wv.l0])
   | succ k1 =>
    have H := HA.out
    clear HA
    simp only [wv.l0] at H
    by_cases c5 : x11_1 < (l0.length : Int)
    ·rw [if_pos c5] at H
     have c5b0 : decide (x11_1 < (l0.length : Int)) = true := decide_eq_true c5
     clear c5
     by_cases c6 : 0 ≤ x11_1
     ·rw [if_pos c6] at H
      have c6b0 : decide (0 ≤ x11_1) = true := decide_eq_true c6
      clear c6
      by_cases c7 : x11_1 < (l0.length : Int)
      ·rw [if_pos c7] at H
       have c7b0 : decide (x11_1 < (l0.length : Int)) = true := decide_eq_true c7
       clear c7
       by_cases c8 : ((vz l0 x11_1).f0).size + 1 ≤ 9223372036854775807
       ·rw [if_pos c8] at H
        have c8b0 := eq_true c8
        have c8b1 : decide (((vz l0 x11_1).f0).size + 1 ≤ 9223372036854775807) = true := decide_eq_true c8
        try have c8b2 : (9223372036854775807 < ((vz l0 x11_1).f0).size + 1) = False := eq_false (Nat.not_lt.2 c8)
        replace H := Option.bind_eq_some_iff.mp H
        obtain ⟨t104,A90,H⟩ := H
        replace H : (if (((vz l0 x11_1).f0) ++ (⟨#[61]⟩ : ByteArray)).size + t104.size ≤ 9223372036854775807 then (if x3_1.length < 8796093022208 then (wv.l0 k1 (x3_1 ++ [(((vz l0 x11_1).f0) ++ (⟨#[61]⟩ : ByteArray)) ++ t104]) l0 (l0.length : Int) (wrap64 (x11_1 + 1))) else (none)) else (none)) = some r := H
        have A9 := qq.mk A90
        clear A90
        by_cases c10 : (((vz l0 x11_1).f0) ++ (⟨#[61]⟩ : ByteArray)).size + t104.size ≤ 9223372036854775807
        ·rw [if_pos c10] at H
         have c10b0 := eq_true c10
         have c10b1 : decide ((((vz l0 x11_1).f0) ++ (⟨#[61]⟩ : ByteArray)).size + t104.size ≤ 9223372036854775807) = true := decide_eq_true c10
         try have c10b2 : (9223372036854775807 < (((vz l0 x11_1).f0) ++ (⟨#[61]⟩ : ByteArray)).size + t104.size) = False := eq_false (Nat.not_lt.2 c10)
         try (have c10b9 := c10b2;simp only [ByteArray.size_append,show (⟨#[61]⟩ : ByteArray).size = 1 from rfl] at c10b9)
         by_cases c11 : x3_1.length < 8796093022208
         ·rw [if_pos c11] at H
          have LMc11 := qq.mk c11
          clear c11
          obtain ⟨y105,hy105⟩ : ∃ y_ : List ByteArray,y_ = (x3_1 ++ [(((vz l0 x11_1).f0) ++ (⟨#[61]⟩ : ByteArray)) ++ t104]) := ⟨_,rfl⟩
          replace H : (wv.l0 k1 y105 l0 (l0.length : Int) (wrap64 (x11_1 + 1))) = some r := by first | (rw [hy105];with_reducible exact H) | (have H2_ := (Option.bind_some _ _).symm.trans H;rw [hy105];with_reducible exact H2_) | (have H2_ := (Option.bind_some _ _).symm.trans H;with_reducible exact H2_) | with_reducible exact H | (rw [hy105];exact H) | exact H
          have Ny105 := qq.mk hy105
          clear hy105
          have H' := qq.mk H
          clear H
          have p102 : 0 ≤ (x11_1 : Int) := of_decide_eq_true (by assumption)
          have q102 : x11_1 < (l0.length : Int) := of_decide_eq_true (by assumption)
          obtain ⟨ad102,e102,hx102_0,hx102_1⟩ := at_T122 HR0.out x11_1 p102 q102
          cases e102
          replace hx102_0 := (HB.out.cell (World.block_lt_of_cell? w _ hx102_0)).trans hx102_0
          replace hx102_1 := (HB.out.cell (World.block_lt_of_cell? w _ hx102_1)).trans hx102_1
          replace p102 := eq_true p102
          replace q102 := eq_true q102
          try go_wp2_with (first | ((with_reducible refine gate_dst (N := 5) rfl ?_);refine box_event ?hg (N := 5) ?hd (cs := #[.string (⟨#[]⟩ : ByteArray),.string (⟨#[]⟩ : ByteArray)]) (t := 122) ?hr ?_;(case hd => rfl);(case hg => rfl);(case hr => first | (go_simp;done) | (go_simp;rfl));intro gb103 hg w12 hbox hb;have n0_ := qq.mk (Kd.R_below (by (with_reducible repeat (first | apply Kd.jq | apply Kd.zx | apply Kd.jz));exact HO_3.out) hb);have n1_ := qq.mk (zv (by repeat (first | (with_reducible first | exact HB.out | apply qj | apply qz | apply qk) | exact HB.out)) hb);have n2_ := qq.mk (hbox);have n3_ := qq.mk ((by rw [hg];exact (zw (by repeat (first | (with_reducible first | exact HB.out | apply qj | apply qz | apply qk) | exact HB.out))) : w.heap.size ≤ gb103));have n4_ := qq.mk ((by rw [hg];exact (zw (by repeat (first | (with_reducible first | exact HB.out | apply qj | apply qz | apply qk) | exact HB.out))) : w.heap.size ≤ gb103));clear HO_3;clear HB;have HO_3 := n0_;have HB := n1_;have BK103 := n2_;have GW103 := n3_;have GE103 := n4_;clear n0_ n1_ n2_ n3_ n4_;clear hb hbox hg;have hcz13_0 : w12.cell? ⟨gb103,0,none⟩ = some (.string (⟨#[]⟩ : ByteArray)) := (qw BK103.out 0).trans rfl;have hcz13_1 : w12.cell? ⟨gb103,1,none⟩ = some (.string (⟨#[]⟩ : ByteArray)) := (qw BK103.out 1).trans rfl;have hfz13_0 := qv BK103.out 0;have hfz13_1 := qv BK103.out 1))
          have n0_ : qq (Kd.R Kd.string 9 ((w12.setCell ⟨gb103,0,none⟩ (.string ((vz l0 x11_1).f0))).setCell ⟨gb103,1,none⟩ (.string ((vz l0 x11_1).f1))) w.heap.size (fun _ => True) u3 x3_1) := ⟨by (with_reducible repeat (first | apply Kd.jq | apply Kd.zx | apply Kd.jz));exact Kd.R_mono (Kd.R_far (p := ⟨gb103,1,none⟩) (Kd.R_far (p := ⟨gb103,0,none⟩) (Kd.R_types HO_3.out BK103.out (by decide)) (fun _ hk => hk.2) (.string ((vz l0 x11_1).f0))) (fun _ hk => hk.2) (.string ((vz l0 x11_1).f1))) (fun _ hk => trivial)⟩
          have n1_ : qq (((w12.setCell ⟨gb103,0,none⟩ (.string ((vz l0 x11_1).f0))).setCell ⟨gb103,1,none⟩ (.string ((vz l0 x11_1).f1))).heap[gb103]? = some (.cells #[.string ((vz l0 x11_1).f0),.string ((vz l0 x11_1).f1)] 122 (0,0))) := ⟨by (with_reducible repeat (first | refine zz ?_ _ | refine zj ?_ | refine zq ?_ _));refine blk_put (cs := #[.string ((vz l0 x11_1).f0),.string (⟨#[]⟩ : ByteArray)]) ?_ 1 _ rfl;(with_reducible repeat (first | refine zz ?_ _ | refine zj ?_ | refine zq ?_ _));refine blk_put (cs := #[.string (⟨#[]⟩ : ByteArray),.string (⟨#[]⟩ : ByteArray)]) ?_ 0 _ rfl;(with_reducible repeat (first | refine zz ?_ _ | refine zj ?_ | refine zq ?_ _));exact BK103.out⟩
          have n2_ : qq (Below w.heap.size w ((w12.setCell ⟨gb103,0,none⟩ (.string ((vz l0 x11_1).f0))).setCell ⟨gb103,1,none⟩ (.string ((vz l0 x11_1).f1)))) := ⟨by repeat (first | (with_reducible first | exact HB.out | apply qj | apply qz | apply qk | refine qx ?_ GE103.out) | exact HB.out)⟩
          (try clear HO_3)
          (try clear BK103)
          (try clear HB)
          generalize ((w12.setCell ⟨gb103,0,none⟩ (.string ((vz l0 x11_1).f0))).setCell ⟨gb103,1,none⟩ (.string ((vz l0 x11_1).f1))) = w14 at n0_ n1_ n2_ ⊢
          have HO_3 := n0_
          have BK103 := n1_
          have HB := n2_
          clear n0_ n1_ n2_
          have n0_ := qq.mk (Kd.jz HO_3.out)
          have n1_ := qq.mk (zj BK103.out)
          have n2_ := qq.mk (qk HB.out)
          clear HO_3
          clear BK103
          clear HB
          have HO_3 := n0_
          have BK103 := n1_
          have HB := n2_
          clear n0_ n1_ n2_
          refine start_ (n := 11) (S := fun w' => w'.cell? ⟨gb103,0,none⟩ = some (.string ((vz l0 x11_1).f0)) ∧ w'.cell? ⟨gb103,1,none⟩ = some (.string ((vz l0 x11_1).f1))) (ds := []) #[false,false,false,false,false,false,false,false,false,false,false] (by kernel_rfl) rfl rfl ⟨(qw BK103.out 0).trans rfl,(qw BK103.out 1).trans rfl⟩ (fun hHeld => ?_);refine with_tabW wv.tab7 wv.bits7 (fun HT_ HW_ => ?_)
          generalize w14.drew = w15 at HO_3 BK103 HB hHeld ⊢
          refine pure_ (i := 0) (N := some 15) (v := ?_) (a' := ?_) #[true,false,false,false,false,false,false,false,false,false,false] rfl rfl (any_of HT_.out (by kernel_rfl)) (fun _ _ _ h => h) (Or.inl ⟨by rfl,?_⟩) ?_ ?_
          rotate_left
          ·intro w'
           go_simp
           with_reducible rfl
          rotate_left
          ·simp only [Act.put,List.setIfInBounds_toArray,List.set_cons_zero,List.set_cons_succ,i64_w,i32_w]
           rfl
          refine pure_ (i := 1) (N := some 16) (v := ?_) (a' := ?_) #[true,true,false,false,false,false,false,false,false,false,false] rfl rfl (any_of HT_.out (by kernel_rfl)) (fun _ _ _ h => h) (Or.inl ⟨by rfl,?_⟩) ?_ ?_
          rotate_left
          ·intro w'
           go_simp
           with_reducible rfl
          rotate_left
          ·simp only [Act.put,List.setIfInBounds_toArray,List.set_cons_zero,List.set_cons_succ,i64_w,i32_w]
           rfl
          refine pure_ (i := 4) (N := some 19) (v := ?_) (a' := ?_) #[true,true,false,false,true,false,false,false,false,false,false] rfl rfl (any_of HT_.out (by kernel_rfl)) (fun _ _ _ h => h) (Or.inl ⟨by rfl,?_⟩) ?_ ?_
          rotate_left
          ·intro w'
           go_simp
           with_reducible rfl
          rotate_left
          ·simp only [Act.put,List.setIfInBounds_toArray,List.set_cons_zero,List.set_cons_succ,i64_w,i32_w]
           rfl
          refine take_ (i := 2) (N := some 17) (v := ?_) (a' := ?_) #[true,true,true,false,true,false,false,false,false,false,false] rfl rfl (take_ofW HT_.out HW_.out (by kernel_rfl)) (fun _ _ _ h => h) (Or.inl ⟨by rfl,?_⟩) hHeld ?_ ?_
          rotate_left
          ·rintro w' ⟨s0,s1⟩
           go_simp
           with_reducible rfl
          rotate_left
          ·simp only [Act.put,List.setIfInBounds_toArray,List.set_cons_zero,List.set_cons_succ,i64_w,i32_w]
           rfl
          refine pure_ (i := 3) (N := some 18) (v := ?_) (a' := ?_) #[true,true,true,true,true,false,false,false,false,false,false] rfl rfl (any_of HT_.out (by kernel_rfl)) (fun _ _ _ h => h) (Or.inl ⟨by rfl,?_⟩) ?_ ?_
          rotate_left
          ·intro w'
           go_simp
           with_reducible rfl
          rotate_left
          ·simp only [Act.put,List.setIfInBounds_toArray,List.set_cons_zero,List.set_cons_succ,i64_w,i32_w]
           rfl
          refine take_ (i := 5) (N := some 20) (v := ?_) (a' := ?_) #[true,true,true,true,true,true,false,false,false,false,false] rfl rfl (take_ofW HT_.out HW_.out (by kernel_rfl)) (fun _ _ _ h => h) (Or.inl ⟨by rfl,?_⟩) hHeld ?_ ?_
          rotate_left
          ·rintro w' ⟨s0,s1⟩
           go_simp
           with_reducible rfl
          rotate_left
          ·simp only [Act.put,List.setIfInBounds_toArray,List.set_cons_zero,List.set_cons_succ,i64_w,i32_w]
           rfl
          refine one_ (i := 6) (N := some 21) #[true,true,true,true,true,true,true,false,false,false,false] rfl rfl (one_of HT_.out (by kernel_rfl)) (by decide) (fun K hK => ?_)
          refine goes_ Try.func102 (by kernel_rfl) rfl #[.string ((vz l0 x11_1).f1),.string (⟨#[44,92]⟩ : ByteArray)] (by rfl) rfl rfl (by (try simp only [List.map_toArray,List.map_cons,List.map_nil]);first | done | rfl | (simp only [List.length_drop,List.length_take];rfl)) ?_
          with_reducible refine (xv.calls ((vz l0 x11_1).f1) (⟨#[44,92]⟩ : ByteArray) t104 _ A9.out).mono ?_
          rintro e w16 ⟨rfl,hb⟩
          refine ⟨_,rfl,?_⟩
          have n0_ := qq.mk (Kd.R_below (by (with_reducible repeat (first | apply Kd.jq | apply Kd.zx | apply Kd.jz));exact HO_3.out) hb)
          have n1_ := qq.mk (kw (g := gb103) (o := .cells #[.string ((vz l0 x11_1).f0),.string ((vz l0 x11_1).f1)] 122 (0,0)) (by (with_reducible repeat (first | refine zz ?_ _ | refine zj ?_ | refine zq ?_ _));exact BK103.out) hb)
          have n2_ := qq.mk (zv (by repeat (first | (with_reducible first | exact HB.out | apply qj | apply qz | apply qk | refine qx ?_ GE103.out) | exact HB.out)) hb)
          clear HO_3
          clear BK103
          clear HB
          have HO_3 := n0_
          have BK103 := n1_
          have HB := n2_
          clear n0_ n1_ n2_
          (try clear hb)
          (try clear hb2)
          (try clear hk)
          (try clear hi)
          refine hK.out _ _ ⟨(qw BK103.out 0).trans rfl,(qw BK103.out 1).trans rfl⟩ (fun hHeld => ?_)
          clear hK K
          refine norm_ (a' := ?_) ?_ ?_
          rotate_left
          ·show Act.put _ (some 21) _ = _
           simp only [Act.put,List.setIfInBounds_toArray,List.set_cons_zero,List.set_cons_succ,i64_w,i32_w]
           rfl
          refine pure_ (i := 7) (N := some 22) (v := ?_) (a' := ?_) #[true,true,true,true,true,true,true,true,false,false,false] rfl rfl (any_of HT_.out (by kernel_rfl)) (fun _ _ _ h => h) (Or.inl ⟨by rfl,?_⟩) ?_ ?_
          rotate_left
          ·intro w'
           go_simp
           with_reducible rfl
          rotate_left
          ·simp only [Act.put,List.setIfInBounds_toArray,List.set_cons_zero,List.set_cons_succ,i64_w,i32_w]
           rfl
          refine one_ (i := 8) (N := some 23) #[true,true,true,true,true,true,true,true,true,false,false] rfl rfl (one_of HT_.out (by kernel_rfl)) (by decide) (fun K hK => ?_)
          refine value_ (w1 := ?_) (v := ?_) (by rfl) rfl ?_ ?_
          rotate_left 2
          ·go_simp
           constructor
           ·rfl
           ·rfl
          refine hK.out _ _ ⟨(qw (zq BK103.out _) 0).trans rfl,(qw (zq BK103.out _) 1).trans rfl⟩ (fun hHeld => ?_)
          clear hK K
          refine norm_ (a' := ?_) ?_ ?_
          rotate_left
          ·show Act.put _ (some 23) _ = _
           simp only [Act.put,List.setIfInBounds_toArray,List.set_cons_zero,List.set_cons_succ,i64_w,i32_w]
           rfl
          refine one_ (i := 9) (N := some 24) #[true,true,true,true,true,true,true,true,true,true,false] rfl rfl (one_of HT_.out (by kernel_rfl)) (by decide) (fun K hK => ?_)
          refine Kd.R_append_step Kd.string (w0 := w) w.heap.size (by rfl) (.tmp 15) (.tmp 23) 56 9 (.string ⟨#[]⟩) 16 rfl Try.underlying56 info9 rfl (by decide) (by omega) u3 x3_1 ((((vz l0 x11_1).f0) ++ (⟨#[61]⟩ : ByteArray)) ++ t104) [.string ((((vz l0 x11_1).f0) ++ (⟨#[61]⟩ : ByteArray)) ++ t104)] (fun _ => True) (fun _ => False) rfl rfl ?aP (fun _ hk => hk.elim) ?aF ?aO ?aB ?aS ?aL ?_
          (case aP => exact rfl)
          (case aB => exact (by repeat (first | (with_reducible first | exact HB.out | apply qj | apply qz | apply qk | refine qx ?_ GE103.out) | exact HB.out)))
          (case aF => exact (fun _ _ => trivial))
          (case aO => exact (by (with_reducible repeat (first | apply Kd.jq | apply Kd.zx | apply Kd.jz));exact HO_3.out))
          (case aS => exact (zw (by repeat (first | (with_reducible first | exact HB.out | apply qj | apply qz | apply qk | refine qx ?_ GE103.out) | exact HB.out))))
          (case aL => have := LMc11.out;omega)
          intro v106 w17 ho hb hg hat
          rw [← Ny105.out] at ho
          have n0_ := qq.mk (blk_grown (g := gb103) (o := .cells #[.string ((vz l0 x11_1).f0),.string ((vz l0 x11_1).f1)] 122 (0,0)) (by (with_reducible repeat (first | refine zz ?_ _ | refine zj ?_ | refine zq ?_ _));exact BK103.out) hg (Kd.R_ne HO_3.out BK103.out (by decide)))
          have n1_ := qq.mk (hb)
          have n2_ := qq.mk (ho)
          clear BK103
          clear HB
          clear HO_3
          have BK103 := n0_
          have HB := n1_
          have HO107 := n2_
          clear n0_ n1_ n2_
          clear ho hb hg hat
          refine hK.out _ _ ⟨(qw BK103.out 0).trans rfl,(qw BK103.out 1).trans rfl⟩ (fun hHeld => ?_)
          clear hK K
          refine norm_ (a' := ?_) ?_ ?_
          rotate_left
          ·show Act.put _ (some 24) _ = _
           simp only [Act.put,List.setIfInBounds_toArray,List.set_cons_zero,List.set_cons_succ,i64_w,i32_w]
           rfl
          refine pure_ (i := 10) (N := some 3) (v := ?_) (a' := ?_) #[true,true,true,true,true,true,true,true,true,true,true] rfl rfl (any_of HT_.out (by kernel_rfl)) (fun _ _ _ h => h) (Or.inl ⟨by rfl,?_⟩) ?_ ?_
          rotate_left
          ·intro w'
           go_simp
           with_reducible rfl
          rotate_left
          ·simp only [Act.put,List.setIfInBounds_toArray,List.set_cons_zero,List.set_cons_succ,i64_w,i32_w]
           rfl
          refine done_ (done_of HT_.out (by kernel_rfl)) ?_
          try go_wp2
          go_roundg k1
          case measure => have := HK1.out;omega
          case rel => exact ⟨(y105),(wrap64 (x11_1 + 1)),(by first | rfl | (simp;done) | (simp [*];done)),H',⟨by have := HK1.out;omega⟩,⟨by (with_reducible repeat (first | apply Kd.jq | apply Kd.zx | apply Kd.jz));exact HO107.out⟩,⟨by repeat (first | (with_reducible first | exact HB.out | apply qj | apply qz | apply qk | refine qx ?_ GE103.out) | exact HB.out)⟩⟩
         ·rw [if_neg c11] at H
          exact absurd H (by simp)
        ·rw [if_neg c10] at H
         exact absurd H (by simp)
       ·rw [if_neg c8] at H
        exact absurd H (by simp)
      ·rw [if_neg c7] at H
       exact absurd H (by simp)
     ·rw [if_neg c6] at H
      exact absurd H (by simp)
    ·rw [if_neg c5] at H
     have c5b0 : decide (x11_1 < (l0.length : Int)) = false := decide_eq_false c5
     clear c5
     replace H := Option.bind_eq_some_iff.mp H
     obtain ⟨t108,A180,H⟩ := H
     replace H : (some t108) = some r := H
     have A18 := qq.mk A180
     clear A180
     obtain rfl := Option.some.inj H
     obtain ⟨Ao19,co19,eo19⟩ := Kd.R_slice HO_3.out
     subst eo19
     go_wp2_with (first | ((with_reducible refine kz (f := 103) rfl ?_);refine goesL_ (some 27) rfl rfl Try.func103 (by kernel_rfl) rfl #[.slice Ao19 x3_1.length co19,.string (⟨#[44]⟩ : ByteArray)] rfl (by (try simp only [List.map_toArray,List.map_cons,List.map_nil]);first | done | rfl | (simp only [List.length_drop,List.length_take];rfl)) ?_;(with_reducible refine (qkj.calls _ _ x3_1 (⟨#[44]⟩ : ByteArray) t108 _ ?side1 ?side2 A18.out).mono ?_);(case side1 => repeat (first | exact (Kd.R_reads' HO_3.out).2.2 | (with_reducible refine Kd.C_alloc ?_ _) | (with_reducible refine Kd.C_drewN ?_ _) | (with_reducible refine Kd.C_drew ?_)));(case side2 => exact (Kd.R_reads' HO_3.out).2.1);rintro e w20 ⟨rfl,hb⟩;refine ⟨_,rfl,?_⟩;have n0_ := qq.mk (Kd.R_below (by (with_reducible repeat (first | apply Kd.jq | apply Kd.zx | apply Kd.jz));exact HO_3.out) hb);have n1_ := qq.mk (zv (by repeat (first | (with_reducible first | exact HB.out | apply qj | apply qz | apply qk) | exact HB.out)) hb);clear HO_3;clear HB;have HO_3 := n0_;have HB := n1_;clear n0_ n1_;(try clear hb);(try clear hb2);(try clear hk);(try clear hi)))
     go_ret
     exact ⟨by first | rfl | (simp [*,jx,jw] <;> rfl),by repeat (first | (with_reducible first | exact HB.out | apply qj | apply qz | apply qk) | exact HB.out)⟩
 ·replace c3 := Bool.eq_false_iff.mpr c3
  subst c3
  have H1 : (some (⟨#[]⟩ : ByteArray)) = some r := by rw [if_neg (show ¬ (false = true) by decide)] at H;exact H
  clear H
  have H := H1
  clear H1
  obtain rfl := Option.some.inj H
  go_enter Try.func42,Try.ntmps42
  go_wp2_with (first | ((with_reducible refine kz (f := 101) rfl ?_);refine goesL_ (some 7) rfl rfl Try.func101 (by kernel_rfl) rfl #[.slice A0 l0.length c0] rfl (by (try simp only [List.map_toArray,List.map_cons,List.map_nil]);first | done | rfl | (simp only [List.length_drop,List.length_take];rfl)) ?_;(with_reducible refine (wq.calls k _ _ l0 false _ ?side1 ?side2 A2.out).mono ?_);(case side1 => repeat (first | exact HR0.out | (with_reducible refine Kd.C_alloc ?_ _) | (with_reducible refine Kd.C_drewN ?_ _) | (with_reducible refine Kd.C_drew ?_)));(case side2 => exact HC0.out);rintro e w21 ⟨rfl,hb⟩;refine ⟨_,rfl,?_⟩;have n0_ := qq.mk (zv (by repeat (first | (with_reducible first | exact HB.out | apply qj | apply qz | apply qk) | exact HB.out)) hb);clear HB;have HB := n0_;clear n0_;(try clear hb);(try clear hb2);(try clear hk);(try clear hi)))
  go_ret
  exact ⟨by first | rfl | (simp [*,jx,jw] <;> rfl),by repeat (first | (with_reducible first | exact HB.out | apply qj | apply qz | apply qk) | exact HB.out)⟩
end Go.Proofs.Ytccbjchlcelkgaa.Pr
namespace Go.Proofs.Ytccbjchlcelkgaa.Pr
open Go.RowKit Go.Proofs.YtccbjchlcelkgaaW.PrintWords Go.Proofs.YtccbjchlcelkgaaW.PrintLast Go.Proofs.YtccbjchlcelkgaaW.PrintMore
attribute [local go_sem] max2_int min2_int max_two min_two max_three min_three max_four min_four
set_option linter.unusedVariables false
set_option linter.unusedSimpArgs false
def qjk.f (a0 : Int) : Option (Bool) := if a0 ≥ 48 then (some (decide (a0 ≤ 57))) else (some false)
set_option maxHeartbeats 8000000 in
set_option maxRecDepth 100000 in
theorem qjk.calls (a0 : Int) (r : Bool) (w : World) (h : qjk.f a0 = some r) :
  Calls Try.prog 130 #[.int .u8 a0] w fun e w' => e = .returned (.bool r) ∧ Drawn0 w w' := by
 have H : (if a0 ≥ 48 then (some (decide (a0 ≤ 57))) else (some false)) = some r := h
 clear h
 by_cases c2 : a0 ≥ 48
 ·rw [if_pos c2] at H
  have c2b0 : decide (48 ≤ a0) = true := decide_eq_true c2
  clear c2
  obtain rfl := Option.some.inj H
  go_enter Try.func130,Try.ntmps130
  go_wp2
  go_ret
  exact ⟨by first | rfl | (simp;done) | (simp [*];done),by repeat (first | exact Drawn0.refl _ | apply Drawn0.step)⟩
 ·rw [if_neg c2] at H
  have c2b0 : decide (48 ≤ a0) = false := decide_eq_false c2
  clear c2
  obtain rfl := Option.some.inj H
  go_enter Try.func130,Try.ntmps130
  go_wp2
  go_ret
  exact ⟨by first | rfl | (simp;done) | (simp [*];done),by repeat (first | exact Drawn0.refl _ | apply Drawn0.step)⟩
end Go.Proofs.Ytccbjchlcelkgaa.Pr
namespace Go.Proofs.Ytccbjchlcelkgaa.Pr
open Go.RowKit Go.Proofs.YtccbjchlcelkgaaW.PrintWords Go.Proofs.YtccbjchlcelkgaaW.PrintLast Go.Proofs.YtccbjchlcelkgaaW.PrintMore
attribute [local go_sem] max2_int min2_int max_two min_two max_three min_three max_four min_four
set_option linter.unusedVariables false
set_option linter.unusedSimpArgs false
def qjv.f (a0 : Int) : Option (Bool) := if a0 ≥ 97 then (if a0 ≤ 122 then (some true) else (if a0 ≥ 65 then (some (decide (a0 ≤ 90))) else (some false))) else (if a0 ≥ 65 then (some (decide (a0 ≤ 90))) else (some false))
set_option maxHeartbeats 8000000 in
set_option maxRecDepth 100000 in
theorem qjv.calls (a0 : Int) (r : Bool) (w : World) (h : qjv.f a0 = some r) :
  Calls Try.prog 131 #[.int .u8 a0] w fun e w' => e = .returned (.bool r) ∧ Drawn0 w w' := by
 have H : (if a0 ≥ 97 then (if a0 ≤ 122 then (some true) else (if a0 ≥ 65 then (some (decide (a0 ≤ 90))) else (some false))) else (if a0 ≥ 65 then (some (decide (a0 ≤ 90))) else (some false))) = some r := h
 clear h
 by_cases c2 : a0 ≥ 97
 ·rw [if_pos c2] at H
  have c2b0 : decide (97 ≤ a0) = true := decide_eq_true c2
  clear c2
  by_cases c3 : a0 ≤ 122
  ·rw [if_pos c3] at H
   have c3b0 : decide (a0 ≤ 122) = true := decide_eq_true c3
   clear c3
   obtain rfl := Option.some.inj H
   go_enter Try.func131,Try.ntmps131
   go_wp2
   go_ret
   exact ⟨by first | rfl | (simp;done) | (simp [*];done),by repeat (first | exact Drawn0.refl _ | apply Drawn0.step)⟩
  ·rw [if_neg c3] at H
   have c3b0 : decide (a0 ≤ 122) = false := decide_eq_false c3
   clear c3
   by_cases c4 : a0 ≥ 65
   ·rw [if_pos c4] at H
    have c4b0 : decide (65 ≤ a0) = true := decide_eq_true c4
    clear c4
    obtain rfl := Option.some.inj H
    go_enter Try.func131,Try.ntmps131
    go_wp2
    go_ret
    exact ⟨by first | rfl | (simp;done) | (simp [*];done),by repeat (first | exact Drawn0.refl _ | apply Drawn0.step)⟩
   ·rw [if_neg c4] at H
    have c4b0 : decide (65 ≤ a0) = false := decide_eq_false c4
    clear c4
    obtain rfl := Option.some.inj H
    go_enter Try.func131,Try.ntmps131
    go_wp2
    go_ret
    exact ⟨by first | rfl | (simp;done) | (simp [*];done),by repeat (first | exact Drawn0.refl _ | apply Drawn0.step)⟩
 ·rw [if_neg c2] at H
  have c2b0 : decide (97 ≤ a0) = false := decide_eq_false c2
  clear c2
  by_cases c5 : a0 ≥ 65
  ·rw [if_pos c5] at H
   have c5b0 : decide (65 ≤ a0) = true := decide_eq_true c5
   clear c5
   obtain rfl := Option.some.inj H
   go_enter Try.func131,Try.ntmps131
   go_wp2
   go_ret
   exact ⟨by first | rfl | (simp;done) | (simp [*];done),by repeat (first | exact Drawn0.refl _ | apply Drawn0.step)⟩
  ·rw [if_neg c5] at H
   have c5b0 : decide (65 ≤ a0) = false := decide_eq_false c5
   clear c5
   obtain rfl := Option.some.inj H
   go_enter Try.func131,Try.ntmps131
   go_wp2
   go_ret
   exact ⟨by first | rfl | (simp;done) | (simp [*];done),by repeat (first | exact Drawn0.refl _ | apply Drawn0.step)⟩
end Go.Proofs.Ytccbjchlcelkgaa.Pr
namespace Go.Proofs.Ytccbjchlcelkgaa.Pr
open Go.RowKit Go.Proofs.YtccbjchlcelkgaaW.PrintWords Go.Proofs.YtccbjchlcelkgaaW.PrintLast Go.Proofs.YtccbjchlcelkgaaW.PrintMore
attribute [local go_sem] max2_int min2_int max_two min_two max_three min_three max_four min_four
set_option linter.unusedVariables false
set_option linter.unusedSimpArgs false
mutual
def qzq.j0 : Nat → ByteArray → Bool → Option (Bool)
 | 0,_,_ => none
 | k + 1,x0,x16 => if x16 = true then (some false) else (qzq.l0 k x0 0)
def qzq.l0 : Nat → ByteArray → Int → Option (Bool)
 | 0,_,_ => none
 | k + 1,x0,x3 => if x3 < (x0.size : Int) then (if 0 ≤ x3 then ((qjv.f (bt x0 x3)).bind fun t102 => (if t102 = true then (qzq.l0 k x0 (wrap64 (x3 + 1))) else ((qjk.f (bt x0 x3)).bind fun t103 => (if t103 = true then (qzq.l0 k x0 (wrap64 (x3 + 1))) else (if (bt x0 x3) = 95 then (qzq.l0 k x0 (wrap64 (x3 + 1))) else (some false)))))) else (none)) else (some true)
end
def qzq.f (k : Nat) (a0 : ByteArray) : Option (Bool) := if (a0.size : Int) < 1 then (qzq.j0 k a0 true) else (if (a0.size : Int) > 30 then (qzq.j0 k a0 true) else (if 0 < (a0.size : Int) then ((qjk.f (bt a0 0)).bind fun t101 => (qzq.j0 k a0 t101)) else (none)))
set_option maxHeartbeats 8000000 in
set_option maxRecDepth 100000 in
theorem qzq.calls (k : Nat) (a0 : ByteArray) (r : Bool) (w : World) (h : qzq.f k a0 = some r) :
  Calls Try.prog 73 #[.string a0] w fun e w' => e = .returned (.bool r) ∧ Drawn0 w w' := by
 have H : (if (a0.size : Int) < 1 then (qzq.j0 k a0 true) else (if (a0.size : Int) > 30 then (qzq.j0 k a0 true) else (if 0 < (a0.size : Int) then ((qjk.f (bt a0 0)).bind fun t101 => (qzq.j0 k a0 t101)) else (none)))) = some r := h
 clear h
 have HC2 := qq.mk H
 clear H
 go_enter Try.func73,Try.ntmps73
 go_upto_region 1 with (fail)
 go_cut [16] (fun v16 wc => ∃ (kq : Nat) (x16_1 : Bool),v16 = .bool x16_1 ∧ qq (qzq.j0 kq a0 x16_1 = some r) ∧ qq (kq ≤ k) ∧ Drawn0 w wc)
 case first =>
  have H := HC2.out
  clear HC2
  by_cases c3 : (a0.size : Int) < 1
  ·rw [if_pos c3] at H
   have c3b0 : decide ((a0.size : Int) < 1) = true := decide_eq_true c3
   have c3b1 : decide (a0.size < 1) = true := decide_eq_true (by omega)
   clear c3
   (first | rw [c3b0] | (simp only [i64_w,i32_w];rw [c3b0]) | skip)
   have H' := qq.mk H
   clear H
   go_wp2
   go_meet
   case rel => exact ⟨_,(true),(by first | rfl | (simp;done) | (simp [*];done)),H',⟨by first | omega | exact Nat.le_refl _⟩,by repeat (first | exact Drawn0.refl _ | apply Drawn0.step)⟩
  ·rw [if_neg c3] at H
   have c3b0 : decide ((a0.size : Int) < 1) = false := decide_eq_false c3
   have c3b1 : decide (a0.size < 1) = false := decide_eq_false (by omega)
   clear c3
   (first | rw [c3b0] | (simp only [i64_w,i32_w];rw [c3b0]) | skip)
   by_cases c4 : (a0.size : Int) > 30
   ·rw [if_pos c4] at H
    have c4b0 : decide (30 < (a0.size : Int)) = true := decide_eq_true c4
    have c4b1 : decide (30 < a0.size) = true := decide_eq_true (by omega)
    clear c4
    have H' := qq.mk H
    clear H
    go_wp2
    go_meet
    case rel => exact ⟨_,(true),(by first | rfl | (simp;done) | (simp [*];done)),H',⟨by first | omega | exact Nat.le_refl _⟩,by repeat (first | exact Drawn0.refl _ | apply Drawn0.step)⟩
   ·rw [if_neg c4] at H
    have c4b0 : decide (30 < (a0.size : Int)) = false := decide_eq_false c4
    have c4b1 : decide (30 < a0.size) = false := decide_eq_false (by omega)
    clear c4
    by_cases c5 : 0 < (a0.size : Int)
    ·rw [if_pos c5] at H
     have c5b0 : decide (0 < (a0.size : Int)) = true := decide_eq_true c5
     have c5b1 : decide (0 < a0.size) = true := decide_eq_true (by omega)
     clear c5
     replace H := Option.bind_eq_some_iff.mp H
     obtain ⟨t101,A70,H⟩ := H
     replace H : (qzq.j0 k a0 t101) = some r := H
     have A7 := qq.mk A70
     clear A70
     have H' := qq.mk H
     clear H
     have p6 : 0 ≤ (0 : Int) := (by omega)
     have q6 : 0 < a0.size := (by have : (0 : Int) < (a0.size : Int) := of_decide_eq_true (by assumption);omega)
     have hx6 : ∀ h : 0 < a0.size,((a0[0]'h).toNat : Int) = bt a0 0 := bt_at a0 0
     clear p6
     have qi6 : (0 < (a0.size : Int)) = True := eq_true (of_decide_eq_true (by assumption))
     replace q6 := eq_true q6
     go_wp2_with (first | (go_at_call 130;(with_reducible refine (qjk.calls (bt a0 0) t101 _ A7.out).mono ?_);rintro e w' ⟨rfl,⟨nd,rfl⟩⟩))
     go_meet
     case rel => exact ⟨_,(t101),(by first | rfl | (simp;done) | (simp [*];done)),H',⟨by first | omega | exact Nat.le_refl _⟩,by repeat (first | exact Drawn0.refl _ | apply Drawn0.step)⟩
    ·rw [if_neg c5] at H
     exact absurd H (by simp)
 case rest =>
  clear HC2
  try clear p2
  try clear c3
  try clear c3b0
  try clear c3b1
  try clear c4
  try clear c4b0
  try clear c4b1
  try clear c5
  try clear c5b0
  try clear c5b1
  try clear p6
  try clear q6
  try clear hx6
  try clear qi6
  try clear c7
  try clear p6
  try clear q6
  obtain ⟨kq,x16_1,rfl,HA,HJ1,⟨mc1,rfl⟩⟩ := hcut
  cases kq with
  | zero => exact absurd HA.out (by simp [qzq.j0])
  | succ kj1 =>
   have H := HA.out
   clear HA
   simp only [qzq.j0] at H
   by_cases c8 : x16_1 = true
   ·subst c8
    have H1 : (some false) = some r := by rw [if_pos rfl] at H;exact H
    clear H
    have H := H1
    clear H1
    obtain rfl := Option.some.inj H
    go_wp2
    go_ret
    exact ⟨by first | rfl | (simp;done) | (simp [*];done),by repeat (first | exact Drawn0.refl _ | apply Drawn0.step)⟩
   ·replace c8 := Bool.eq_false_iff.mpr c8
    subst c8
    have H1 : (qzq.l0 kj1 a0 0) = some r := by rw [if_neg (show ¬ (false = true) by decide)] at H;exact H
    clear H
    have H := H1
    clear H1
    have H' := qq.mk H
    clear H
    go_wp2
    go_loopg [3] kj1 (fun kq v3 w' => ∃ (x3_2 : Int),v3 = .int .i64 x3_2 ∧ qq (qzq.l0 kq a0 x3_2 = some r) ∧ qq (kq ≤ kj1) ∧ Drawn0 w w')
    case atStart => exact ⟨(0),(by first | rfl | (simp;done) | (simp [*];done)),H',⟨Nat.le_refl _⟩,by repeat (first | exact Drawn0.refl _ | apply Drawn0.step)⟩
    case round =>
     clear H'
     try clear c1
     try clear p2
     try clear c3
     try clear c3b0
     try clear c3b1
     try clear c4
     try clear c4b0
     try clear c4b1
     try clear c5
     try clear c5b0
     try clear c5b1
     try clear p6
     try clear q6
     try clear hx6
     try clear qi6
     try clear c7
     try clear c8
     try clear p2
     try clear p6
     try clear q6
     obtain ⟨x3_2,rfl,HA,HK2,⟨m2,rfl⟩⟩ := hrel
     cases gk with
     | zero => exact absurd HA.out (by simp [qzq.l0])
     | succ k2 =>
      have H := HA.out
      clear HA
      simp only [qzq.l0] at H
      by_cases c9 : x3_2 < (a0.size : Int)
      ·rw [if_pos c9] at H
       have c9b0 : decide (x3_2 < (a0.size : Int)) = true := decide_eq_true c9
       clear c9
       by_cases c10 : 0 ≤ x3_2
       ·rw [if_pos c10] at H
        have c10b0 : decide (0 ≤ x3_2) = true := decide_eq_true c10
        clear c10
        replace H := Option.bind_eq_some_iff.mp H
        obtain ⟨t102,A120,H⟩ := H
        replace H : (if t102 = true then (qzq.l0 k2 a0 (wrap64 (x3_2 + 1))) else ((qjk.f (bt a0 x3_2)).bind fun t103 => (if t103 = true then (qzq.l0 k2 a0 (wrap64 (x3_2 + 1))) else (if (bt a0 x3_2) = 95 then (qzq.l0 k2 a0 (wrap64 (x3_2 + 1))) else (some false))))) = some r := H
        have A12 := qq.mk A120
        clear A120
        by_cases c13 : t102 = true
        ·subst c13
         have H1 : (qzq.l0 k2 a0 (wrap64 (x3_2 + 1))) = some r := by rw [if_pos rfl] at H;exact H
         clear H
         have H := H1
         clear H1
         have H' := qq.mk H
         clear H
         have p11 : 0 ≤ (x3_2 : Int) := of_decide_eq_true (by assumption)
         have q11 : x3_2 < (a0.size : Int) := of_decide_eq_true (by assumption)
         have hx11 := bt_at a0 x3_2
         replace p11 := eq_true p11
         replace q11 := eq_true q11
         go_wp2_with (first | ((with_reducible refine kz (f := 131) rfl ?_);refine goesL_ (some 26) rfl rfl Try.func131 (by kernel_rfl) rfl #[.int .u8 (bt a0 x3_2)] rfl (by (try simp only [List.map_toArray,List.map_cons,List.map_nil]);first | done | rfl | (simp only [List.length_drop,List.length_take];rfl)) ?_;(with_reducible refine (qjv.calls (bt a0 x3_2) true _ A12.out).mono ?_);rintro e w' ⟨rfl,⟨nd,rfl⟩⟩;refine ⟨_,rfl,?_⟩))
         go_roundg k2
         case measure => have := HJ1.out;have := HK2.out;omega
         case rel => exact ⟨(wrap64 (x3_2 + 1)),(by first | rfl | (simp;done) | (simp [*];done)),H',⟨by have := HJ1.out;have := HK2.out;omega⟩,by repeat (first | exact Drawn0.refl _ | apply Drawn0.step)⟩
        ·replace c13 := Bool.eq_false_iff.mpr c13
         subst c13
         have H1 : ((qjk.f (bt a0 x3_2)).bind fun t103 => (if t103 = true then (qzq.l0 k2 a0 (wrap64 (x3_2 + 1))) else (if (bt a0 x3_2) = 95 then (qzq.l0 k2 a0 (wrap64 (x3_2 + 1))) else (some false)))) = some r := by rw [if_neg (show ¬ (false = true) by decide)] at H;exact H
         clear H
         have H := H1
         clear H1
         replace H := Option.bind_eq_some_iff.mp H
         obtain ⟨t103,A150,H⟩ := H
         replace H : (if t103 = true then (qzq.l0 k2 a0 (wrap64 (x3_2 + 1))) else (if (bt a0 x3_2) = 95 then (qzq.l0 k2 a0 (wrap64 (x3_2 + 1))) else (some false))) = some r := H
         have A15 := qq.mk A150
         clear A150
         by_cases c16 : t103 = true
         ·subst c16
          have H1 : (qzq.l0 k2 a0 (wrap64 (x3_2 + 1))) = some r := by rw [if_pos rfl] at H;exact H
          clear H
          have H := H1
          clear H1
          have H' := qq.mk H
          clear H
          have p11 : 0 ≤ (x3_2 : Int) := of_decide_eq_true (by assumption)
          have q11 : x3_2 < (a0.size : Int) := of_decide_eq_true (by assumption)
          have hx11 := bt_at a0 x3_2
          replace p11 := eq_true p11
          replace q11 := eq_true q11
          go_wp2_with (first | ((with_reducible refine kz (f := 131) rfl ?_);refine goesL_ (some 26) rfl rfl Try.func131 (by kernel_rfl) rfl #[.int .u8 (bt a0 x3_2)] rfl (by (try simp only [List.map_toArray,List.map_cons,List.map_nil]);first | done | rfl | (simp only [List.length_drop,List.length_take];rfl)) ?_;(with_reducible refine (qjv.calls (bt a0 x3_2) false _ A12.out).mono ?_);rintro e w' ⟨rfl,⟨nd,rfl⟩⟩;refine ⟨_,rfl,?_⟩;have p14 : 0 ≤ (x3_2 : Int) := of_decide_eq_true (by assumption);have q14 : x3_2 < (a0.size : Int) := of_decide_eq_true (by assumption);have hx14 := bt_at a0 x3_2;replace p14 := eq_true p14;replace q14 := eq_true q14) | (go_at_call 130;(with_reducible refine (qjk.calls (bt a0 x3_2) true _ A15.out).mono ?_);rintro e w' ⟨rfl,⟨nd,rfl⟩⟩))
          go_roundg k2
          case measure => have := HJ1.out;have := HK2.out;omega
          case rel => exact ⟨(wrap64 (x3_2 + 1)),(by first | rfl | (simp;done) | (simp [*];done)),H',⟨by have := HJ1.out;have := HK2.out;omega⟩,by repeat (first | exact Drawn0.refl _ | apply Drawn0.step)⟩
         ·replace c16 := Bool.eq_false_iff.mpr c16
          subst c16
          have H1 : (if (bt a0 x3_2) = 95 then (qzq.l0 k2 a0 (wrap64 (x3_2 + 1))) else (some false)) = some r := by rw [if_neg (show ¬ (false = true) by decide)] at H;exact H
          clear H
          have H := H1
          clear H1
          by_cases c18 : (bt a0 x3_2) = 95
          ·rw [if_pos c18] at H
           have c18b0 : ((bt a0 x3_2) == 95) = true := beq_iff_eq.mpr c18
           have c18b1 : ((bt a0 x3_2) != 95) = false := bne_eq_false_iff_eq.mpr c18
           clear c18
           have H' := qq.mk H
           clear H
           have p11 : 0 ≤ (x3_2 : Int) := of_decide_eq_true (by assumption)
           have q11 : x3_2 < (a0.size : Int) := of_decide_eq_true (by assumption)
           have hx11 := bt_at a0 x3_2
           replace p11 := eq_true p11
           replace q11 := eq_true q11
           go_wp2_with (first | ((with_reducible refine kz (f := 131) rfl ?_);refine goesL_ (some 26) rfl rfl Try.func131 (by kernel_rfl) rfl #[.int .u8 (bt a0 x3_2)] rfl (by (try simp only [List.map_toArray,List.map_cons,List.map_nil]);first | done | rfl | (simp only [List.length_drop,List.length_take];rfl)) ?_;(with_reducible refine (qjv.calls (bt a0 x3_2) false _ A12.out).mono ?_);rintro e w' ⟨rfl,⟨nd,rfl⟩⟩;refine ⟨_,rfl,?_⟩;have p14 : 0 ≤ (x3_2 : Int) := of_decide_eq_true (by assumption);have q14 : x3_2 < (a0.size : Int) := of_decide_eq_true (by assumption);have hx14 := bt_at a0 x3_2;replace p14 := eq_true p14;replace q14 := eq_true q14) | (go_at_call 130;(with_reducible refine (qjk.calls (bt a0 x3_2) false _ A15.out).mono ?_);rintro e w' ⟨rfl,⟨nd,rfl⟩⟩;have p17 : 0 ≤ (x3_2 : Int) := of_decide_eq_true (by assumption);have q17 : x3_2 < (a0.size : Int) := of_decide_eq_true (by assumption);have hx17 := bt_at a0 x3_2;replace p17 := eq_true p17;replace q17 := eq_true q17))
           go_roundg k2
           case measure => have := HJ1.out;have := HK2.out;omega
           case rel => exact ⟨(wrap64 (x3_2 + 1)),(by first | rfl | (simp;done) | (simp [*];done)),H',⟨by have := HJ1.out;have := HK2.out;omega⟩,by repeat (first | exact Drawn0.refl _ | apply Drawn0.step)⟩
          ·rw [if_neg c18] at H
           have c18b0 : ((bt a0 x3_2) == 95) = false := beq_eq_false_iff_ne.mpr c18
           have c18b1 : ((bt a0 x3_2) != 95) = true := bne_iff_ne.mpr c18
           obtain rfl := Option.some.inj H
           have p11 : 0 ≤ (x3_2 : Int) := of_decide_eq_true (by assumption)
           have q11 : x3_2 < (a0.size : Int) := of_decide_eq_true (by assumption)
           have hx11 := bt_at a0 x3_2
           replace p11 := eq_true p11
           replace q11 := eq_true q11
           go_wp2_with (first | ((with_reducible refine kz (f := 131) rfl ?_);refine goesL_ (some 26) rfl rfl Try.func131 (by kernel_rfl) rfl #[.int .u8 (bt a0 x3_2)] rfl (by (try simp only [List.map_toArray,List.map_cons,List.map_nil]);first | done | rfl | (simp only [List.length_drop,List.length_take];rfl)) ?_;(with_reducible refine (qjv.calls (bt a0 x3_2) false _ A12.out).mono ?_);rintro e w' ⟨rfl,⟨nd,rfl⟩⟩;refine ⟨_,rfl,?_⟩;have p14 : 0 ≤ (x3_2 : Int) := of_decide_eq_true (by assumption);have q14 : x3_2 < (a0.size : Int) := of_decide_eq_true (by assumption);have hx14 := bt_at a0 x3_2;replace p14 := eq_true p14;replace q14 := eq_true q14) | (go_at_call 130;(with_reducible refine (qjk.calls (bt a0 x3_2) false _ A15.out).mono ?_);rintro e w' ⟨rfl,⟨nd,rfl⟩⟩;have p17 : 0 ≤ (x3_2 : Int) := of_decide_eq_true (by assumption);have q17 : x3_2 < (a0.size : Int) := of_decide_eq_true (by assumption);have hx17 := bt_at a0 x3_2;replace p17 := eq_true p17;replace q17 := eq_true q17))
           go_ret
           exact ⟨by first | rfl | (simp;done) | (simp [*];done),by repeat (first | exact Drawn0.refl _ | apply Drawn0.step)⟩
       ·rw [if_neg c10] at H
        exact absurd H (by simp)
      ·rw [if_neg c9] at H
       have c9b0 : decide (x3_2 < (a0.size : Int)) = false := decide_eq_false c9
       clear c9
       obtain rfl := Option.some.inj H
       go_wp2
       go_ret
       exact ⟨by first | rfl | (simp;done) | (simp [*];done),by repeat (first | exact Drawn0.refl _ | apply Drawn0.step)⟩
end Go.Proofs.Ytccbjchlcelkgaa.Pr
namespace Go.Proofs.Ytccbjchlcelkgaa.Pr
open Go.RowKit Go.Proofs.YtccbjchlcelkgaaW.PrintWords Go.Proofs.YtccbjchlcelkgaaW.PrintLast Go.Proofs.YtccbjchlcelkgaaW.PrintMore
attribute [local go_sem] max2_int min2_int max_two min_two max_three min_three max_four min_four
set_option linter.unusedVariables false
set_option linter.unusedSimpArgs false
def qjw.l0 : Nat → ByteArray → Int → Option (Bool)
 | 0,_,_ => none
 | k + 1,x0,x3 => if x3 < (x0.size : Int) then (if 0 ≤ x3 then (if (bt x0 x3) < 32 then (some false) else (if (bt x0 x3) > 126 then (some false) else (qjw.l0 k x0 (wrap64 (x3 + 1))))) else (none)) else (some true)
def qjw.f (k : Nat) (a0 : ByteArray) : Option (Bool) := qjw.l0 k a0 0
set_option maxHeartbeats 8000000 in
set_option maxRecDepth 100000 in
theorem qjw.calls (k : Nat) (a0 : ByteArray) (r : Bool) (w : World) (h : qjw.f k a0 = some r) :
  Calls Try.prog 72 #[.string a0] w fun e w' => e = .returned (.bool r) ∧ Drawn0 w w' := by
 have H : (qjw.l0 k a0 0) = some r := h
 clear h
 have H' := qq.mk H
 clear H
 go_enter Try.func72,Try.ntmps72
 go_wp2
 go_loopg [3] k (fun kq v3 w' => ∃ (x3_1 : Int),v3 = .int .i64 x3_1 ∧ qq (qjw.l0 kq a0 x3_1 = some r) ∧ qq (kq ≤ k) ∧ Drawn0 w w')
 case atStart => exact ⟨(0),(by first | rfl | (simp;done) | (simp [*];done)),H',⟨Nat.le_refl _⟩,by repeat (first | exact Drawn0.refl _ | apply Drawn0.step)⟩
 case round =>
  clear H'
  obtain ⟨x3_1,rfl,HA,HK1,⟨m1,rfl⟩⟩ := hrel
  cases gk with
  | zero => exact absurd HA.out (by simp [qjw.l0])
  | succ k1 =>
   have H := HA.out
   clear HA
   simp only [qjw.l0] at H
   by_cases c2 : x3_1 < (a0.size : Int)
   ·rw [if_pos c2] at H
    have c2b0 : decide (x3_1 < (a0.size : Int)) = true := decide_eq_true c2
    clear c2
    by_cases c3 : 0 ≤ x3_1
    ·rw [if_pos c3] at H
     have c3b0 : decide (0 ≤ x3_1) = true := decide_eq_true c3
     clear c3
     by_cases c5 : (bt a0 x3_1) < 32
     ·rw [if_pos c5] at H
      have c5b0 : decide ((bt a0 x3_1) < 32) = true := decide_eq_true c5
      clear c5
      obtain rfl := Option.some.inj H
      have p4 : 0 ≤ (x3_1 : Int) := of_decide_eq_true (by assumption)
      have q4 : x3_1 < (a0.size : Int) := of_decide_eq_true (by assumption)
      have hx4 := bt_at a0 x3_1
      replace p4 := eq_true p4
      replace q4 := eq_true q4
      go_wp2
      go_ret
      exact ⟨by first | rfl | (simp;done) | (simp [*];done),by repeat (first | exact Drawn0.refl _ | apply Drawn0.step)⟩
     ·rw [if_neg c5] at H
      have c5b0 : decide ((bt a0 x3_1) < 32) = false := decide_eq_false c5
      clear c5
      by_cases c7 : (bt a0 x3_1) > 126
      ·rw [if_pos c7] at H
       have c7b0 : decide (126 < (bt a0 x3_1)) = true := decide_eq_true c7
       clear c7
       obtain rfl := Option.some.inj H
       have p4 : 0 ≤ (x3_1 : Int) := of_decide_eq_true (by assumption)
       have q4 : x3_1 < (a0.size : Int) := of_decide_eq_true (by assumption)
       have hx4 := bt_at a0 x3_1
       replace p4 := eq_true p4
       replace q4 := eq_true q4
       have p6 : 0 ≤ (x3_1 : Int) := of_decide_eq_true (by assumption)
       have q6 : x3_1 < (a0.size : Int) := of_decide_eq_true (by assumption)
       have hx6 := bt_at a0 x3_1
       replace p6 := eq_true p6
       replace q6 := eq_true q6
       go_wp2
       go_ret
       exact ⟨by first | rfl | (simp;done) | (simp [*];done),by repeat (first | exact Drawn0.refl _ | apply Drawn0.step)⟩
      ·rw [if_neg c7] at H
       have c7b0 : decide (126 < (bt a0 x3_1)) = false := decide_eq_false c7
       clear c7
       have H' := qq.mk H
       clear H
       have p4 : 0 ≤ (x3_1 : Int) := of_decide_eq_true (by assumption)
       have q4 : x3_1 < (a0.size : Int) := of_decide_eq_true (by assumption)
       have hx4 := bt_at a0 x3_1
       replace p4 := eq_true p4
       replace q4 := eq_true q4
       have p6 : 0 ≤ (x3_1 : Int) := of_decide_eq_true (by assumption)
       have q6 : x3_1 < (a0.size : Int) := of_decide_eq_true (by assumption)
       have hx6 := bt_at a0 x3_1
       replace p6 := eq_true p6
       replace q6 := eq_true q6
       go_wp2
       go_roundg k1
       case measure => have := HK1.out;omega
       case rel => exact ⟨(wrap64 (x3_1 + 1)),(by first | rfl | (simp;done) | (simp [*];done)),H',⟨by have := HK1.out;omega⟩,by repeat (first | exact Drawn0.refl _ | apply Drawn0.step)⟩
    ·rw [if_neg c3] at H
     exact absurd H (by simp)
   ·rw [if_neg c2] at H
    have c2b0 : decide (x3_1 < (a0.size : Int)) = false := decide_eq_false c2
    clear c2
    obtain rfl := Option.some.inj H
    go_wp2
    go_ret
    exact ⟨by first | rfl | (simp;done) | (simp [*];done),by repeat (first | exact Drawn0.refl _ | apply Drawn0.step)⟩
end Go.Proofs.Ytccbjchlcelkgaa.Pr
namespace Go.Proofs.Ytccbjchlcelkgaa.Pr
open Go.RowKit Go.Proofs.YtccbjchlcelkgaaW.PrintWords Go.Proofs.YtccbjchlcelkgaaW.PrintLast Go.Proofs.YtccbjchlcelkgaaW.PrintMore
attribute [local go_sem] max2_int min2_int max_two min_two max_three min_three max_four min_four
set_option linter.unusedVariables false
set_option linter.unusedSimpArgs false
def qqx.l0 : Nat → List (S122) → List (S122) → Int → Int → Option (Bool)
 | 0,_,_,_,_ => none
 | k + 1,x0,x5,x6,x7 => if x7 < x6 then (if 0 ≤ x7 then (if x7 < (x5.length : Int) then ((qzq.f k ((vz x5 x7).f0)).bind fun t103 => (if t103 = true then (if (((vz x5 x7).f1).size : Int) < 1 then (some false) else (if (((vz x5 x7).f1).size : Int) > 60 then (some false) else ((qjw.f k ((vz x5 x7).f1)).bind fun t104 => (if t104 = true then (qqx.l0 k x0 x5 x6 (wrap64 (x7 + 1))) else (some false))))) else (some false))) else (none)) else (none)) else (some (decide ((x0.length : Int) ≤ 8)))
def qqx.f (k : Nat) (l0 : List (S122)) : Option (Bool) := qqx.l0 k l0 l0 (l0.length : Int) 0
set_option maxHeartbeats 8000000 in
set_option maxRecDepth 100000 in
theorem qqx.calls (k : Nat) (A0 : Option Addr) (c0 : Nat) (l0 : List (S122)) (r : Bool) (w : World) (hr0 : Kd.C k122 w A0 l0.length l0) (hc0 : l0.length ≤ c0) (h : qqx.f k l0 = some r) :
  Calls Try.prog 104 #[.slice A0 l0.length c0] w fun e w' => e = .returned (.bool r) ∧ Below w.heap.size w w' := by
 have hu122 := Try.underlying122
 have HR0 := qq.mk hr0
 have HC0 := qq.mk hc0
 clear hr0 hc0
 have HB := qq.mk (Below.refl w.heap.size w)
 have H : (qqx.l0 k l0 l0 (l0.length : Int) 0) = some r := h
 clear h
 have H' := qq.mk H
 clear H
 go_enter Try.func104,Try.ntmps104
 go_wp2
 go_loopg [7] k (fun kq v7 w' => ∃ (x7_1 : Int),v7 = .int .i64 x7_1 ∧ qq (qqx.l0 kq l0 l0 (l0.length : Int) x7_1 = some r) ∧ qq (kq ≤ k) ∧ qq (Below w.heap.size w w'))
 case atStart => exact ⟨(0),(by first | rfl | (simp;done) | (simp [*];done)),H',⟨Nat.le_refl _⟩,⟨by repeat (first | (with_reducible first | exact HB.out | apply qj | apply qz | apply qk) | exact HB.out)⟩⟩
 case round =>
  clear H'
  try clear c1
  obtain ⟨x7_1,rfl,HA,HK1,HB⟩ := hrel
  cases gk with
  | zero => exact absurd HA.out (by simp [qqx.l0])
  | succ k1 =>
   have H := HA.out
   clear HA
   simp only [qqx.l0] at H
   by_cases c2 : x7_1 < (l0.length : Int)
   ·rw [if_pos c2] at H
    have c2b0 : decide (x7_1 < (l0.length : Int)) = true := decide_eq_true c2
    clear c2
    by_cases c3 : 0 ≤ x7_1
    ·rw [if_pos c3] at H
     have c3b0 : decide (0 ≤ x7_1) = true := decide_eq_true c3
     clear c3
     by_cases c4 : x7_1 < (l0.length : Int)
     ·rw [if_pos c4] at H
      have c4b0 : decide (x7_1 < (l0.length : Int)) = true := decide_eq_true c4
      clear c4
      replace H := Option.bind_eq_some_iff.mp H
      obtain ⟨t103,A50,H⟩ := H
      replace H : (if t103 = true then (if (((vz l0 x7_1).f1).size : Int) < 1 then (some false) else (if (((vz l0 x7_1).f1).size : Int) > 60 then (some false) else ((qjw.f k1 ((vz l0 x7_1).f1)).bind fun t104 => (if t104 = true then (qqx.l0 k1 l0 l0 (l0.length : Int) (wrap64 (x7_1 + 1))) else (some false))))) else (some false)) = some r := H
      have A5 := qq.mk A50
      clear A50
      by_cases c6 : t103 = true
      ·subst c6
       have H1 : (if (((vz l0 x7_1).f1).size : Int) < 1 then (some false) else (if (((vz l0 x7_1).f1).size : Int) > 60 then (some false) else ((qjw.f k1 ((vz l0 x7_1).f1)).bind fun t104 => (if t104 = true then (qqx.l0 k1 l0 l0 (l0.length : Int) (wrap64 (x7_1 + 1))) else (some false))))) = some r := by rw [if_pos rfl] at H;exact H
       clear H
       have H := H1
       clear H1
       by_cases c7 : (((vz l0 x7_1).f1).size : Int) < 1
       ·rw [if_pos c7] at H
        have c7b0 : decide ((((vz l0 x7_1).f1).size : Int) < 1) = true := decide_eq_true c7
        have c7b1 : decide (((vz l0 x7_1).f1).size < 1) = true := decide_eq_true (by omega)
        clear c7
        obtain rfl := Option.some.inj H
        have p101 : 0 ≤ (x7_1 : Int) := of_decide_eq_true (by assumption)
        have q101 : x7_1 < (l0.length : Int) := of_decide_eq_true (by assumption)
        obtain ⟨ad101,e101,hx101_0,hx101_1⟩ := at_T122 HR0.out x7_1 p101 q101
        cases e101
        replace hx101_0 := (HB.out.cell (World.block_lt_of_cell? w _ hx101_0)).trans hx101_0
        replace hx101_1 := (HB.out.cell (World.block_lt_of_cell? w _ hx101_1)).trans hx101_1
        replace p101 := eq_true p101
        replace q101 := eq_true q101
        go_wp2_with (first | ((with_reducible refine gate_dst (N := 4) rfl ?_);(try (refine gate_guard (by rfl) ?_;dsimp only));refine box_event ?hg (N := 4) ?hd (cs := #[.string (⟨#[]⟩ : ByteArray),.string (⟨#[]⟩ : ByteArray)]) (t := 122) ?hr ?_;(case hd => rfl);(case hg => rfl);(case hr => first | (go_simp;done) | (go_simp;rfl));intro gb102 hg w8 hbox hb;have n0_ := qq.mk (zv (by repeat (first | (with_reducible first | exact HB.out | apply qj | apply qz | apply qk) | exact HB.out)) hb);have n1_ := qq.mk (hbox);have n2_ := qq.mk ((by rw [hg];exact (zw (by repeat (first | (with_reducible first | exact HB.out | apply qj | apply qz | apply qk) | exact HB.out))) : w.heap.size ≤ gb102));have n3_ := qq.mk ((by rw [hg];exact (zw (by repeat (first | (with_reducible first | exact HB.out | apply qj | apply qz | apply qk) | exact HB.out))) : w.heap.size ≤ gb102));clear HB;have HB := n0_;have BK102 := n1_;have GW102 := n2_;have GE102 := n3_;clear n0_ n1_ n2_ n3_;clear hb hbox hg;have hcz9_0 : w8.cell? ⟨gb102,0,none⟩ = some (.string (⟨#[]⟩ : ByteArray)) := (qw BK102.out 0).trans rfl;have hcz9_1 : w8.cell? ⟨gb102,1,none⟩ = some (.string (⟨#[]⟩ : ByteArray)) := (qw BK102.out 1).trans rfl;have hfz9_0 := qv BK102.out 0;have hfz9_1 := qv BK102.out 1) | ((with_reducible refine kz (f := 73) rfl ?_);refine goesL_ (some 13) rfl rfl Try.func73 (by kernel_rfl) rfl #[.string ((vz l0 x7_1).f0)] rfl (by (try simp only [List.map_toArray,List.map_cons,List.map_nil]);first | done | rfl | (simp only [List.length_drop,List.length_take];rfl)) ?_;(with_reducible refine (qzq.calls k1 ((vz l0 x7_1).f0) true _ A5.out).mono ?_);rintro e w' ⟨rfl,⟨nd,rfl⟩⟩;refine ⟨_,rfl,?_⟩))
        go_ret
        exact ⟨by first | rfl | (simp [*,jx,jw] <;> rfl),by repeat (first | (with_reducible first | exact HB.out | apply qj | apply qz | apply qk | refine qx ?_ GE102.out) | exact HB.out)⟩
       ·rw [if_neg c7] at H
        have c7b0 : decide ((((vz l0 x7_1).f1).size : Int) < 1) = false := decide_eq_false c7
        have c7b1 : decide (((vz l0 x7_1).f1).size < 1) = false := decide_eq_false (by omega)
        clear c7
        by_cases c10 : (((vz l0 x7_1).f1).size : Int) > 60
        ·rw [if_pos c10] at H
         have c10b0 : decide (60 < (((vz l0 x7_1).f1).size : Int)) = true := decide_eq_true c10
         have c10b1 : decide (60 < ((vz l0 x7_1).f1).size) = true := decide_eq_true (by omega)
         clear c10
         obtain rfl := Option.some.inj H
         have p101 : 0 ≤ (x7_1 : Int) := of_decide_eq_true (by assumption)
         have q101 : x7_1 < (l0.length : Int) := of_decide_eq_true (by assumption)
         obtain ⟨ad101,e101,hx101_0,hx101_1⟩ := at_T122 HR0.out x7_1 p101 q101
         cases e101
         replace hx101_0 := (HB.out.cell (World.block_lt_of_cell? w _ hx101_0)).trans hx101_0
         replace hx101_1 := (HB.out.cell (World.block_lt_of_cell? w _ hx101_1)).trans hx101_1
         replace p101 := eq_true p101
         replace q101 := eq_true q101
         go_wp2_with (first | ((with_reducible refine gate_dst (N := 4) rfl ?_);(try (refine gate_guard (by rfl) ?_;dsimp only));refine box_event ?hg (N := 4) ?hd (cs := #[.string (⟨#[]⟩ : ByteArray),.string (⟨#[]⟩ : ByteArray)]) (t := 122) ?hr ?_;(case hd => rfl);(case hg => rfl);(case hr => first | (go_simp;done) | (go_simp;rfl));intro gb102 hg w11 hbox hb;have n0_ := qq.mk (zv (by repeat (first | (with_reducible first | exact HB.out | apply qj | apply qz | apply qk) | exact HB.out)) hb);have n1_ := qq.mk (hbox);have n2_ := qq.mk ((by rw [hg];exact (zw (by repeat (first | (with_reducible first | exact HB.out | apply qj | apply qz | apply qk) | exact HB.out))) : w.heap.size ≤ gb102));have n3_ := qq.mk ((by rw [hg];exact (zw (by repeat (first | (with_reducible first | exact HB.out | apply qj | apply qz | apply qk) | exact HB.out))) : w.heap.size ≤ gb102));clear HB;have HB := n0_;have BK102 := n1_;have GW102 := n2_;have GE102 := n3_;clear n0_ n1_ n2_ n3_;clear hb hbox hg;have hcz12_0 : w11.cell? ⟨gb102,0,none⟩ = some (.string (⟨#[]⟩ : ByteArray)) := (qw BK102.out 0).trans rfl;have hcz12_1 : w11.cell? ⟨gb102,1,none⟩ = some (.string (⟨#[]⟩ : ByteArray)) := (qw BK102.out 1).trans rfl;have hfz12_0 := qv BK102.out 0;have hfz12_1 := qv BK102.out 1) | ((with_reducible refine kz (f := 73) rfl ?_);refine goesL_ (some 13) rfl rfl Try.func73 (by kernel_rfl) rfl #[.string ((vz l0 x7_1).f0)] rfl (by (try simp only [List.map_toArray,List.map_cons,List.map_nil]);first | done | rfl | (simp only [List.length_drop,List.length_take];rfl)) ?_;(with_reducible refine (qzq.calls k1 ((vz l0 x7_1).f0) true _ A5.out).mono ?_);rintro e w' ⟨rfl,⟨nd,rfl⟩⟩;refine ⟨_,rfl,?_⟩))
         go_ret
         exact ⟨by first | rfl | (simp [*,jx,jw] <;> rfl),by repeat (first | (with_reducible first | exact HB.out | apply qj | apply qz | apply qk | refine qx ?_ GE102.out) | exact HB.out)⟩
        ·rw [if_neg c10] at H
         have c10b0 : decide (60 < (((vz l0 x7_1).f1).size : Int)) = false := decide_eq_false c10
         have c10b1 : decide (60 < ((vz l0 x7_1).f1).size) = false := decide_eq_false (by omega)
         clear c10
         replace H := Option.bind_eq_some_iff.mp H
         obtain ⟨t104,A130,H⟩ := H
         replace H : (if t104 = true then (qqx.l0 k1 l0 l0 (l0.length : Int) (wrap64 (x7_1 + 1))) else (some false)) = some r := H
         have A13 := qq.mk A130
         clear A130
         by_cases c14 : t104 = true
         ·subst c14
          have H1 : (qqx.l0 k1 l0 l0 (l0.length : Int) (wrap64 (x7_1 + 1))) = some r := by rw [if_pos rfl] at H;exact H
          clear H
          have H := H1
          clear H1
          have H' := qq.mk H
          clear H
          have p101 : 0 ≤ (x7_1 : Int) := of_decide_eq_true (by assumption)
          have q101 : x7_1 < (l0.length : Int) := of_decide_eq_true (by assumption)
          obtain ⟨ad101,e101,hx101_0,hx101_1⟩ := at_T122 HR0.out x7_1 p101 q101
          cases e101
          replace hx101_0 := (HB.out.cell (World.block_lt_of_cell? w _ hx101_0)).trans hx101_0
          replace hx101_1 := (HB.out.cell (World.block_lt_of_cell? w _ hx101_1)).trans hx101_1
          replace p101 := eq_true p101
          replace q101 := eq_true q101
          go_wp2_with (first | ((with_reducible refine gate_dst (N := 4) rfl ?_);(try (refine gate_guard (by rfl) ?_;dsimp only));refine box_event ?hg (N := 4) ?hd (cs := #[.string (⟨#[]⟩ : ByteArray),.string (⟨#[]⟩ : ByteArray)]) (t := 122) ?hr ?_;(case hd => rfl);(case hg => rfl);(case hr => first | (go_simp;done) | (go_simp;rfl));intro gb102 hg w15 hbox hb;have n0_ := qq.mk (zv (by repeat (first | (with_reducible first | exact HB.out | apply qj | apply qz | apply qk) | exact HB.out)) hb);have n1_ := qq.mk (hbox);have n2_ := qq.mk ((by rw [hg];exact (zw (by repeat (first | (with_reducible first | exact HB.out | apply qj | apply qz | apply qk) | exact HB.out))) : w.heap.size ≤ gb102));have n3_ := qq.mk ((by rw [hg];exact (zw (by repeat (first | (with_reducible first | exact HB.out | apply qj | apply qz | apply qk) | exact HB.out))) : w.heap.size ≤ gb102));clear HB;have HB := n0_;have BK102 := n1_;have GW102 := n2_;have GE102 := n3_;clear n0_ n1_ n2_ n3_;clear hb hbox hg;have hcz16_0 : w15.cell? ⟨gb102,0,none⟩ = some (.string (⟨#[]⟩ : ByteArray)) := (qw BK102.out 0).trans rfl;have hcz16_1 : w15.cell? ⟨gb102,1,none⟩ = some (.string (⟨#[]⟩ : ByteArray)) := (qw BK102.out 1).trans rfl;have hfz16_0 := qv BK102.out 0;have hfz16_1 := qv BK102.out 1) | ((with_reducible refine kz (f := 73) rfl ?_);refine goesL_ (some 13) rfl rfl Try.func73 (by kernel_rfl) rfl #[.string ((vz l0 x7_1).f0)] rfl (by (try simp only [List.map_toArray,List.map_cons,List.map_nil]);first | done | rfl | (simp only [List.length_drop,List.length_take];rfl)) ?_;(with_reducible refine (qzq.calls k1 ((vz l0 x7_1).f0) true _ A5.out).mono ?_);rintro e w' ⟨rfl,⟨nd,rfl⟩⟩;refine ⟨_,rfl,?_⟩) | (go_at_call 72;(with_reducible refine (qjw.calls k1 ((vz l0 x7_1).f1) true _ A13.out).mono ?_);rintro e w' ⟨rfl,⟨nd,rfl⟩⟩))
          go_roundg k1
          case measure => have := HK1.out;omega
          case rel => exact ⟨(wrap64 (x7_1 + 1)),(by first | rfl | (simp;done) | (simp [*];done)),H',⟨by have := HK1.out;omega⟩,⟨by repeat (first | (with_reducible first | exact HB.out | apply qj | apply qz | apply qk | refine qx ?_ GE102.out) | exact HB.out)⟩⟩
         ·replace c14 := Bool.eq_false_iff.mpr c14
          subst c14
          have H1 : (some false) = some r := by rw [if_neg (show ¬ (false = true) by decide)] at H;exact H
          clear H
          have H := H1
          clear H1
          obtain rfl := Option.some.inj H
          have p101 : 0 ≤ (x7_1 : Int) := of_decide_eq_true (by assumption)
          have q101 : x7_1 < (l0.length : Int) := of_decide_eq_true (by assumption)
          obtain ⟨ad101,e101,hx101_0,hx101_1⟩ := at_T122 HR0.out x7_1 p101 q101
          cases e101
          replace hx101_0 := (HB.out.cell (World.block_lt_of_cell? w _ hx101_0)).trans hx101_0
          replace hx101_1 := (HB.out.cell (World.block_lt_of_cell? w _ hx101_1)).trans hx101_1
          replace p101 := eq_true p101
          replace q101 := eq_true q101
          go_wp2_with (first | ((with_reducible refine gate_dst (N := 4) rfl ?_);(try (refine gate_guard (by rfl) ?_;dsimp only));refine box_event ?hg (N := 4) ?hd (cs := #[.string (⟨#[]⟩ : ByteArray),.string (⟨#[]⟩ : ByteArray)]) (t := 122) ?hr ?_;(case hd => rfl);(case hg => rfl);(case hr => first | (go_simp;done) | (go_simp;rfl));intro gb102 hg w17 hbox hb;have n0_ := qq.mk (zv (by repeat (first | (with_reducible first | exact HB.out | apply qj | apply qz | apply qk) | exact HB.out)) hb);have n1_ := qq.mk (hbox);have n2_ := qq.mk ((by rw [hg];exact (zw (by repeat (first | (with_reducible first | exact HB.out | apply qj | apply qz | apply qk) | exact HB.out))) : w.heap.size ≤ gb102));have n3_ := qq.mk ((by rw [hg];exact (zw (by repeat (first | (with_reducible first | exact HB.out | apply qj | apply qz | apply qk) | exact HB.out))) : w.heap.size ≤ gb102));clear HB;have HB := n0_;have BK102 := n1_;have GW102 := n2_;have GE102 := n3_;clear n0_ n1_ n2_ n3_;clear hb hbox hg;have hcz18_0 : w17.cell? ⟨gb102,0,none⟩ = some (.string (⟨#[]⟩ : ByteArray)) := (qw BK102.out 0).trans rfl;have hcz18_1 : w17.cell? ⟨gb102,1,none⟩ = some (.string (⟨#[]⟩ : ByteArray)) := (qw BK102.out 1).trans rfl;have hfz18_0 := qv BK102.out 0;have hfz18_1 := qv BK102.out 1) | ((with_reducible refine kz (f := 73) rfl ?_);refine goesL_ (some 13) rfl rfl Try.func73 (by kernel_rfl) rfl #[.string ((vz l0 x7_1).f0)] rfl (by (try simp only [List.map_toArray,List.map_cons,List.map_nil]);first | done | rfl | (simp only [List.length_drop,List.length_take];rfl)) ?_;(with_reducible refine (qzq.calls k1 ((vz l0 x7_1).f0) true _ A5.out).mono ?_);rintro e w' ⟨rfl,⟨nd,rfl⟩⟩;refine ⟨_,rfl,?_⟩) | (go_at_call 72;(with_reducible refine (qjw.calls k1 ((vz l0 x7_1).f1) false _ A13.out).mono ?_);rintro e w' ⟨rfl,⟨nd,rfl⟩⟩))
          go_ret
          exact ⟨by first | rfl | (simp [*,jx,jw] <;> rfl),by repeat (first | (with_reducible first | exact HB.out | apply qj | apply qz | apply qk | refine qx ?_ GE102.out) | exact HB.out)⟩
      ·replace c6 := Bool.eq_false_iff.mpr c6
       subst c6
       have H1 : (some false) = some r := by rw [if_neg (show ¬ (false = true) by decide)] at H;exact H
       clear H
       have H := H1
       clear H1
       obtain rfl := Option.some.inj H
       have p101 : 0 ≤ (x7_1 : Int) := of_decide_eq_true (by assumption)
       have q101 : x7_1 < (l0.length : Int) := of_decide_eq_true (by assumption)
       obtain ⟨ad101,e101,hx101_0,hx101_1⟩ := at_T122 HR0.out x7_1 p101 q101
       cases e101
       replace hx101_0 := (HB.out.cell (World.block_lt_of_cell? w _ hx101_0)).trans hx101_0
       replace hx101_1 := (HB.out.cell (World.block_lt_of_cell? w _ hx101_1)).trans hx101_1
       replace p101 := eq_true p101
       replace q101 := eq_true q101
       go_wp2_with (first | ((with_reducible refine gate_dst (N := 4) rfl ?_);(try (refine gate_guard (by rfl) ?_;dsimp only));refine box_event ?hg (N := 4) ?hd (cs := #[.string (⟨#[]⟩ : ByteArray),.string (⟨#[]⟩ : ByteArray)]) (t := 122) ?hr ?_;(case hd => rfl);(case hg => rfl);(case hr => first | (go_simp;done) | (go_simp;rfl));intro gb102 hg w19 hbox hb;have n0_ := qq.mk (zv (by repeat (first | (with_reducible first | exact HB.out | apply qj | apply qz | apply qk) | exact HB.out)) hb);have n1_ := qq.mk (hbox);have n2_ := qq.mk ((by rw [hg];exact (zw (by repeat (first | (with_reducible first | exact HB.out | apply qj | apply qz | apply qk) | exact HB.out))) : w.heap.size ≤ gb102));have n3_ := qq.mk ((by rw [hg];exact (zw (by repeat (first | (with_reducible first | exact HB.out | apply qj | apply qz | apply qk) | exact HB.out))) : w.heap.size ≤ gb102));clear HB;have HB := n0_;have BK102 := n1_;have GW102 := n2_;have GE102 := n3_;clear n0_ n1_ n2_ n3_;clear hb hbox hg;have hcz20_0 : w19.cell? ⟨gb102,0,none⟩ = some (.string (⟨#[]⟩ : ByteArray)) := (qw BK102.out 0).trans rfl;have hcz20_1 : w19.cell? ⟨gb102,1,none⟩ = some (.string (⟨#[]⟩ : ByteArray)) := (qw BK102.out 1).trans rfl;have hfz20_0 := qv BK102.out 0;have hfz20_1 := qv BK102.out 1) | ((with_reducible refine kz (f := 73) rfl ?_);refine goesL_ (some 13) rfl rfl Try.func73 (by kernel_rfl) rfl #[.string ((vz l0 x7_1).f0)] rfl (by (try simp only [List.map_toArray,List.map_cons,List.map_nil]);first | done | rfl | (simp only [List.length_drop,List.length_take];rfl)) ?_;(with_reducible refine (qzq.calls k1 ((vz l0 x7_1).f0) false _ A5.out).mono ?_);rintro e w' ⟨rfl,⟨nd,rfl⟩⟩;refine ⟨_,rfl,?_⟩))
       go_ret
       exact ⟨by first | rfl | (simp [*,jx,jw] <;> rfl),by repeat (first | (with_reducible first | exact HB.out | apply qj | apply qz | apply qk | refine qx ?_ GE102.out) | exact HB.out)⟩
     ·rw [if_neg c4] at H
      exact absurd H (by simp)
    ·rw [if_neg c3] at H
     exact absurd H (by simp)
   ·rw [if_neg c2] at H
    have c2b0 : decide (x7_1 < (l0.length : Int)) = false := decide_eq_false c2
    clear c2
    obtain rfl := Option.some.inj H
    go_wp2
    go_ret
    exact ⟨by first | rfl | (simp [*,jx,jw] <;> rfl),by repeat (first | (with_reducible first | exact HB.out | apply qj | apply qz | apply qk) | exact HB.out)⟩
end Go.Proofs.Ytccbjchlcelkgaa.Pr
namespace Go.Proofs.Ytccbjchlcelkgaa.Pr
open Go.RowKit Go.Proofs.YtccbjchlcelkgaaW.PrintWords Go.Proofs.YtccbjchlcelkgaaW.PrintLast Go.Proofs.YtccbjchlcelkgaaW.PrintMore
attribute [local go_sem] max2_int min2_int max_two min_two max_three min_three max_four min_four
set_option linter.unusedVariables false
set_option linter.unusedSimpArgs false
mutual
def qjx.l0 : Nat → ByteArray → ByteArray → List Int → Int → Option (ByteArray)
 | 0,_,_,_,_ => none
 | k + 1,x0,x1,x5,x6 => if x6 < (x0.size : Int) then (qjx.l1 k x0 x1 x5 x6 0) else (some (strOfNums x5))
def qjx.l1 : Nat → ByteArray → ByteArray → List Int → Int → Int → Option (ByteArray)
 | 0,_,_,_,_,_ => none
 | k + 1,x0,x1,x5,x6,x7 => if x7 < (x1.size : Int) then (if 0 ≤ x6 then (if x6 < (x0.size : Int) then (if 0 ≤ x7 then (if (bt x0 x6) = (bt x1 x7) then (if x5.length < 140737488355328 then (qjx.l1 k x0 x1 (x5 ++ [92]) x6 (wrap64 (x7 + 1))) else (none)) else (qjx.l1 k x0 x1 x5 x6 (wrap64 (x7 + 1)))) else (none)) else (none)) else (none)) else (if 0 ≤ x6 then (if x6 < (x0.size : Int) then (if x5.length < 140737488355328 then (qjx.l0 k x0 x1 (x5 ++ [bt x0 x6]) (wrap64 (x6 + 1))) else (none)) else (none)) else (none))
end
def qjx.f (k : Nat) (a0 : ByteArray) (a1 : ByteArray) : Option (ByteArray) := qjx.l0 k a0 a1 ([] : List Int) 0
set_option maxHeartbeats 8000000 in
set_option maxRecDepth 100000 in
theorem qjx.calls (k : Nat) (a0 : ByteArray) (a1 : ByteArray) (r : ByteArray) (w : World) (h : qjx.f k a0 a1 = some r) :
  Calls Try.prog 58 #[.string a0,.string a1] w fun e w' => e = .returned (.string r) ∧ Below w.heap.size w w' := by
 have HB := qq.mk (Below.refl w.heap.size w)
 have H : (qjx.l0 k a0 a1 ([] : List Int) 0) = some r := h
 clear h
 have H' := qq.mk H
 clear H
 go_enter Try.func58,Try.ntmps58
 go_wp2
 repeat (go_quiet (fail);try go_wp2)
 go_loopg [5,6] k (fun kq v5 v6 w' => ∃ (x5_1 : List Int) (x6_1 : Int),v6 = .int .i64 x6_1 ∧ qq (qjx.l0 kq a0 a1 x5_1 x6_1 = some r) ∧ qq (kq ≤ k) ∧ qq (Kd.R (Kd.int .u8) 5 w' w.heap.size (fun _ => True) v5 x5_1) ∧ qq (Below w.heap.size w w'))
 case atStart => exact ⟨(([] : List Int)),(0),(by first | rfl | (simp;done) | (simp [*];done)),H',⟨Nat.le_refl _⟩,⟨by first | exact Kd.R_nil _ _ _ _ _ | exact Kd.N_nil _ _ _ _ _ | exact Kd.V_nil _ _ _ _ _ | exact Kd.Q_nil _ _ _ _ _ | exact Kd.S_nil _ _ _ _ _⟩,⟨by repeat (first | (with_reducible first | exact HB.out | apply qj | apply qz | apply qk) | exact HB.out)⟩⟩
 case round =>
  clear H'
  try clear p2
  obtain ⟨x5_1,x6_1,rfl,HA,HK1,HO_5,HB⟩ := hrel
  cases gk with
  | zero => exact absurd HA.out (by simp [qjx.l0])
  | succ k1 =>
   have H := HA.out
   clear HA
   simp only [qjx.l0] at H
   by_cases c3 : x6_1 < (a0.size : Int)
   ·rw [if_pos c3] at H
    have c3b0 : decide (x6_1 < (a0.size : Int)) = true := decide_eq_true c3
    clear c3
    have H' := qq.mk H
    clear H
    go_wp2
    repeat (go_quiet (fail);try go_wp2)
    go_loopg [5,7] k1 (fun kq v5 v7 w' => ∃ (x5_2 : List Int) (x7_2 : Int),v7 = .int .i64 x7_2 ∧ qq (qjx.l1 kq a0 a1 x5_2 x6_1 x7_2 = some r) ∧ qq (kq ≤ k1) ∧ qq (Kd.R (Kd.int .u8) 5 w' w.heap.size (fun _ => True) v5 x5_2) ∧ qq (Below w.heap.size w w'))
    case atStart => exact ⟨(x5_1),(0),(by first | rfl | (simp;done) | (simp [*];done)),H',⟨Nat.le_refl _⟩,⟨by (with_reducible repeat (first | apply Kd.jq | apply Kd.zx | apply Kd.jz));exact HO_5.out⟩,⟨by repeat (first | (with_reducible first | exact HB.out | apply qj | apply qz | apply qk) | exact HB.out)⟩⟩
    case round =>
     clear H'
     try clear p2
     try clear c3
     try clear c3b0
     try clear p2
     obtain ⟨x5_2,x7_2,rfl,HA,HK2,HO_5,HB⟩ := hrel
     cases gk with
     | zero => exact absurd HA.out (by simp [qjx.l1])
     | succ k2 =>
      have H := HA.out
      clear HA
      simp only [qjx.l1] at H
      by_cases c4 : x7_2 < (a1.size : Int)
      ·rw [if_pos c4] at H
       have c4b0 : decide (x7_2 < (a1.size : Int)) = true := decide_eq_true c4
       clear c4
       by_cases c5 : 0 ≤ x6_1
       ·rw [if_pos c5] at H
        have c5b0 : decide (0 ≤ x6_1) = true := decide_eq_true c5
        clear c5
        by_cases c6 : x6_1 < (a0.size : Int)
        ·rw [if_pos c6] at H
         have c6b0 : decide (x6_1 < (a0.size : Int)) = true := decide_eq_true c6
         clear c6
         by_cases c8 : 0 ≤ x7_2
         ·rw [if_pos c8] at H
          have c8b0 : decide (0 ≤ x7_2) = true := decide_eq_true c8
          clear c8
          by_cases c10 : (bt a0 x6_1) = (bt a1 x7_2)
          ·rw [if_pos c10] at H
           have c10b0 : ((bt a0 x6_1) == (bt a1 x7_2)) = true := beq_iff_eq.mpr c10
           have c10b1 : ((bt a0 x6_1) != (bt a1 x7_2)) = false := bne_eq_false_iff_eq.mpr c10
           clear c10
           by_cases c11 : x5_2.length < 140737488355328
           ·rw [if_pos c11] at H
            have LMc11 := qq.mk c11
            clear c11
            obtain ⟨y101,hy101⟩ : ∃ y_ : List Int,y_ = (x5_2 ++ [92]) := ⟨_,rfl⟩
            replace H : (qjx.l1 k2 a0 a1 y101 x6_1 (wrap64 (x7_2 + 1))) = some r := by first | (rw [hy101];with_reducible exact H) | (have H2_ := (Option.bind_some _ _).symm.trans H;rw [hy101];with_reducible exact H2_) | (have H2_ := (Option.bind_some _ _).symm.trans H;with_reducible exact H2_) | with_reducible exact H | (rw [hy101];exact H) | exact H
            have Ny101 := qq.mk hy101
            clear hy101
            have H' := qq.mk H
            clear H
            have p7 : 0 ≤ (x6_1 : Int) := of_decide_eq_true (by assumption)
            have q7 : x6_1 < (a0.size : Int) := of_decide_eq_true (by assumption)
            have hx7 := bt_at a0 x6_1
            replace p7 := eq_true p7
            replace q7 := eq_true q7
            have p9 : 0 ≤ (x7_2 : Int) := of_decide_eq_true (by assumption)
            have q9 : x7_2 < (a1.size : Int) := of_decide_eq_true (by assumption)
            have hx9 := bt_at a1 x7_2
            replace p9 := eq_true p9
            replace q9 := eq_true q9
            go_wp2_with (first | ((with_reducible refine gate_builtin (b := .append) (xs := #[.tmp 27,.tmp 28]) rfl ?_);at_builtin;refine Kd.R_append (Kd.int .u8) (w0 := w) w.heap.size rfl (.tmp 27) (.tmp 28) 22 5 (.int .u8 0) 1 rfl Try.underlying22 info5 rfl (by decide) (by omega) u5 x5_2 92 [.int .u8 92] (fun _ => True) (fun _ => False) rfl rfl ?aP (fun _ hk => hk.elim) ?aF ?aO ?aB ?aS ?aL ?_;(case aP => exact rfl);(case aB => exact (by repeat (first | (with_reducible first | exact HB.out | apply qj | apply qz | apply qk) | exact HB.out)));(case aF => exact (fun _ _ => trivial));(case aO => exact (by (with_reducible repeat (first | apply Kd.jq | apply Kd.zx | apply Kd.jz));exact HO_5.out));(case aS => exact (zw (by repeat (first | (with_reducible first | exact HB.out | apply qj | apply qz | apply qk) | exact HB.out))));(case aL => have := LMc11.out;omega);intro v102 w12 ho hb hg hat;rw [← Ny101.out] at ho;have n0_ := qq.mk (hb);have n1_ := qq.mk (ho);clear HB;clear HO_5;have HB := n0_;have HO103 := n1_;clear n0_ n1_;clear ho hb hg hat))
            repeat (go_quiet (first | ((with_reducible refine gate_builtin (b := .append) (xs := #[.tmp 27,.tmp 28]) rfl ?_);at_builtin;refine Kd.R_append (Kd.int .u8) (w0 := w) w.heap.size rfl (.tmp 27) (.tmp 28) 22 5 (.int .u8 0) 1 rfl Try.underlying22 info5 rfl (by decide) (by omega) u5 x5_2 92 [.int .u8 92] (fun _ => True) (fun _ => False) rfl rfl ?aP (fun _ hk => hk.elim) ?aF ?aO ?aB ?aS ?aL ?_;(case aP => exact rfl);(case aB => exact (by repeat (first | (with_reducible first | exact HB.out | apply qj | apply qz | apply qk) | exact HB.out)));(case aF => exact (fun _ _ => trivial));(case aO => exact (by (with_reducible repeat (first | apply Kd.jq | apply Kd.zx | apply Kd.jz));exact HO_5.out));(case aS => exact (zw (by repeat (first | (with_reducible first | exact HB.out | apply qj | apply qz | apply qk) | exact HB.out))));(case aL => have := LMc11.out;omega);intro v102 w12 ho hb hg hat;rw [← Ny101.out] at ho;have n0_ := qq.mk (hb);have n1_ := qq.mk (ho);clear HB;clear HO_5;have HB := n0_;have HO103 := n1_;clear n0_ n1_;clear ho hb hg hat));try go_wp2_with (first | ((with_reducible refine gate_builtin (b := .append) (xs := #[.tmp 27,.tmp 28]) rfl ?_);at_builtin;refine Kd.R_append (Kd.int .u8) (w0 := w) w.heap.size rfl (.tmp 27) (.tmp 28) 22 5 (.int .u8 0) 1 rfl Try.underlying22 info5 rfl (by decide) (by omega) u5 x5_2 92 [.int .u8 92] (fun _ => True) (fun _ => False) rfl rfl ?aP (fun _ hk => hk.elim) ?aF ?aO ?aB ?aS ?aL ?_;(case aP => exact rfl);(case aB => exact (by repeat (first | (with_reducible first | exact HB.out | apply qj | apply qz | apply qk) | exact HB.out)));(case aF => exact (fun _ _ => trivial));(case aO => exact (by (with_reducible repeat (first | apply Kd.jq | apply Kd.zx | apply Kd.jz));exact HO_5.out));(case aS => exact (zw (by repeat (first | (with_reducible first | exact HB.out | apply qj | apply qz | apply qk) | exact HB.out))));(case aL => have := LMc11.out;omega);intro v102 w12 ho hb hg hat;rw [← Ny101.out] at ho;have n0_ := qq.mk (hb);have n1_ := qq.mk (ho);clear HB;clear HO_5;have HB := n0_;have HO103 := n1_;clear n0_ n1_;clear ho hb hg hat)))
            go_roundg k2
            case measure => have := HK1.out;have := HK2.out;omega
            case rel => exact ⟨(y101),(wrap64 (x7_2 + 1)),(by first | rfl | (simp;done) | (simp [*];done)),H',⟨by have := HK1.out;have := HK2.out;omega⟩,⟨by (with_reducible repeat (first | apply Kd.jq | apply Kd.zx | apply Kd.jz));exact HO103.out⟩,⟨by repeat (first | (with_reducible first | exact HB.out | apply qj | apply qz | apply qk) | exact HB.out)⟩⟩
           ·rw [if_neg c11] at H
            exact absurd H (by simp)
          ·rw [if_neg c10] at H
           have c10b0 : ((bt a0 x6_1) == (bt a1 x7_2)) = false := beq_eq_false_iff_ne.mpr c10
           have c10b1 : ((bt a0 x6_1) != (bt a1 x7_2)) = true := bne_iff_ne.mpr c10
           have H' := qq.mk H
           clear H
           have p7 : 0 ≤ (x6_1 : Int) := of_decide_eq_true (by assumption)
           have q7 : x6_1 < (a0.size : Int) := of_decide_eq_true (by assumption)
           have hx7 := bt_at a0 x6_1
           replace p7 := eq_true p7
           replace q7 := eq_true q7
           have p9 : 0 ≤ (x7_2 : Int) := of_decide_eq_true (by assumption)
           have q9 : x7_2 < (a1.size : Int) := of_decide_eq_true (by assumption)
           have hx9 := bt_at a1 x7_2
           replace p9 := eq_true p9
           replace q9 := eq_true q9
           go_wp2
           repeat (go_quiet (fail);try go_wp2)
           go_roundg k2
           case measure => have := HK1.out;have := HK2.out;omega
           case rel => exact ⟨(x5_2),(wrap64 (x7_2 + 1)),(by first | rfl | (simp;done) | (simp [*];done)),H',⟨by have := HK1.out;have := HK2.out;omega⟩,⟨by (with_reducible repeat (first | apply Kd.jq | apply Kd.zx | apply Kd.jz));exact HO_5.out⟩,⟨by repeat (first | (with_reducible first | exact HB.out | apply qj | apply qz | apply qk) | exact HB.out)⟩⟩
         ·rw [if_neg c8] at H
          exact absurd H (by simp)
        ·rw [if_neg c6] at H
         exact absurd H (by simp)
       ·rw [if_neg c5] at H
        exact absurd H (by simp)
      ·rw [if_neg c4] at H
       have c4b0 : decide (x7_2 < (a1.size : Int)) = false := decide_eq_false c4
       clear c4
       by_cases c13 : 0 ≤ x6_1
       ·rw [if_pos c13] at H
        have c13b0 : decide (0 ≤ x6_1) = true := decide_eq_true c13
        clear c13
        by_cases c14 : x6_1 < (a0.size : Int)
        ·rw [if_pos c14] at H
         have c14b0 : decide (x6_1 < (a0.size : Int)) = true := decide_eq_true c14
         clear c14
         by_cases c16 : x5_2.length < 140737488355328
         ·rw [if_pos c16] at H
          have LMc16 := qq.mk c16
          clear c16
          obtain ⟨y104,hy104⟩ : ∃ y_ : List Int,y_ = (x5_2 ++ [bt a0 x6_1]) := ⟨_,rfl⟩
          replace H : (qjx.l0 k2 a0 a1 y104 (wrap64 (x6_1 + 1))) = some r := by first | (rw [hy104];with_reducible exact H) | (have H2_ := (Option.bind_some _ _).symm.trans H;rw [hy104];with_reducible exact H2_) | (have H2_ := (Option.bind_some _ _).symm.trans H;with_reducible exact H2_) | with_reducible exact H | (rw [hy104];exact H) | exact H
          have Ny104 := qq.mk hy104
          clear hy104
          have H' := qq.mk H
          clear H
          have p15 : 0 ≤ (x6_1 : Int) := of_decide_eq_true (by assumption)
          have q15 : x6_1 < (a0.size : Int) := of_decide_eq_true (by assumption)
          have hx15 := bt_at a0 x6_1
          replace p15 := eq_true p15
          replace q15 := eq_true q15
          go_wp2_with (first | ((with_reducible refine gate_builtin (b := .append) (xs := #[.tmp 30,.tmp 34]) rfl ?_);at_builtin;refine Kd.R_append (Kd.int .u8) (w0 := w) w.heap.size rfl (.tmp 30) (.tmp 34) 22 5 (.int .u8 0) 1 rfl Try.underlying22 info5 rfl (by decide) (by omega) u5 x5_2 (bt a0 x6_1) [.int .u8 (bt a0 x6_1)] (fun _ => True) (fun _ => False) rfl rfl ?aP (fun _ hk => hk.elim) ?aF ?aO ?aB ?aS ?aL ?_;(case aP => exact rfl);(case aB => exact (by repeat (first | (with_reducible first | exact HB.out | apply qj | apply qz | apply qk) | exact HB.out)));(case aF => exact (fun _ _ => trivial));(case aO => exact (by (with_reducible repeat (first | apply Kd.jq | apply Kd.zx | apply Kd.jz));exact HO_5.out));(case aS => exact (zw (by repeat (first | (with_reducible first | exact HB.out | apply qj | apply qz | apply qk) | exact HB.out))));(case aL => have := LMc16.out;omega);intro v105 w17 ho hb hg hat;rw [← Ny104.out] at ho;have n0_ := qq.mk (hb);have n1_ := qq.mk (ho);clear HB;clear HO_5;have HB := n0_;have HO106 := n1_;clear n0_ n1_;clear ho hb hg hat))
          repeat (go_quiet (first | ((with_reducible refine gate_builtin (b := .append) (xs := #[.tmp 30,.tmp 34]) rfl ?_);at_builtin;refine Kd.R_append (Kd.int .u8) (w0 := w) w.heap.size rfl (.tmp 30) (.tmp 34) 22 5 (.int .u8 0) 1 rfl Try.underlying22 info5 rfl (by decide) (by omega) u5 x5_2 (bt a0 x6_1) [.int .u8 (bt a0 x6_1)] (fun _ => True) (fun _ => False) rfl rfl ?aP (fun _ hk => hk.elim) ?aF ?aO ?aB ?aS ?aL ?_;(case aP => exact rfl);(case aB => exact (by repeat (first | (with_reducible first | exact HB.out | apply qj | apply qz | apply qk) | exact HB.out)));(case aF => exact (fun _ _ => trivial));(case aO => exact (by (with_reducible repeat (first | apply Kd.jq | apply Kd.zx | apply Kd.jz));exact HO_5.out));(case aS => exact (zw (by repeat (first | (with_reducible first | exact HB.out | apply qj | apply qz | apply qk) | exact HB.out))));(case aL => have := LMc16.out;omega);intro v105 w17 ho hb hg hat;rw [← Ny104.out] at ho;have n0_ := qq.mk (hb);have n1_ := qq.mk (ho);clear HB;clear HO_5;have HB := n0_;have HO106 := n1_;clear n0_ n1_;clear ho hb hg hat));try go_wp2_with (first | ((with_reducible refine gate_builtin (b := .append) (xs := #[.tmp 30,.tmp 34]) rfl ?_);at_builtin;refine Kd.R_append (Kd.int .u8) (w0 := w) w.heap.size rfl (.tmp 30) (.tmp 34) 22 5 (.int .u8 0) 1 rfl Try.underlying22 info5 rfl (by decide) (by omega) u5 x5_2 (bt a0 x6_1) [.int .u8 (bt a0 x6_1)] (fun _ => True) (fun _ => False) rfl rfl ?aP (fun _ hk => hk.elim) ?aF ?aO ?aB ?aS ?aL ?_;(case aP => exact rfl);(case aB => exact (by repeat (first | (with_reducible first | exact HB.out | apply qj | apply qz | apply qk) | exact HB.out)));(case aF => exact (fun _ _ => trivial));(case aO => exact (by (with_reducible repeat (first | apply Kd.jq | apply Kd.zx | apply Kd.jz));exact HO_5.out));(case aS => exact (zw (by repeat (first | (with_reducible first | exact HB.out | apply qj | apply qz | apply qk) | exact HB.out))));(case aL => have := LMc16.out;omega);intro v105 w17 ho hb hg hat;rw [← Ny104.out] at ho;have n0_ := qq.mk (hb);have n1_ := qq.mk (ho);clear HB;clear HO_5;have HB := n0_;have HO106 := n1_;clear n0_ n1_;clear ho hb hg hat)))
          go_roundg k2
          case measure => have := HK1.out;have := HK2.out;omega
          case rel => exact ⟨(y104),(wrap64 (x6_1 + 1)),(by first | rfl | (simp;done) | (simp [*];done)),H',⟨by have := HK1.out;have := HK2.out;omega⟩,⟨by (with_reducible repeat (first | apply Kd.jq | apply Kd.zx | apply Kd.jz));exact HO106.out⟩,⟨by repeat (first | (with_reducible first | exact HB.out | apply qj | apply qz | apply qk) | exact HB.out)⟩⟩
         ·rw [if_neg c16] at H
          exact absurd H (by simp)
        ·rw [if_neg c14] at H
         exact absurd H (by simp)
       ·rw [if_neg c13] at H
        exact absurd H (by simp)
   ·rw [if_neg c3] at H
    have c3b0 : decide (x6_1 < (a0.size : Int)) = false := decide_eq_false c3
    clear c3
    obtain rfl := Option.some.inj H
    have hcv18 := own_string (P := Try.prog) Try.underlying22 Try.underlying5 Try.underlying9 (Kd.own_of_R HO_5.out)
    go_wp2
    repeat (go_quiet (fail);try go_wp2)
    go_ret
    exact ⟨by first | rfl | (simp [*,jx,jw] <;> rfl),by repeat (first | (with_reducible first | exact HB.out | apply qj | apply qz | apply qk) | exact HB.out)⟩
end Go.Proofs.Ytccbjchlcelkgaa.Pr
namespace Go.Proofs.Ytccbjchlcelkgaa.Pr
open Go.RowKit Go.Proofs.YtccbjchlcelkgaaW.PrintWords Go.Proofs.YtccbjchlcelkgaaW.PrintLast Go.Proofs.YtccbjchlcelkgaaW.PrintMore
attribute [local go_sem] max2_int min2_int max_two min_two max_three min_three max_four min_four
set_option linter.unusedVariables false
set_option linter.unusedSimpArgs false
def qzz.l0 : Nat → ByteArray → List (S122) → Int → Int → Option (ByteArray)
 | 0,_,_,_,_ => none
 | k + 1,x3,x9,x10,x11 => if x11 < x10 then (if 0 ≤ x11 then (if x11 < (x9.length : Int) then (if x11 > 0 then (if x3.size + 1 ≤ 9223372036854775807 then (if ((vz x9 x11).f0).size + 1 ≤ 9223372036854775807 then ((qjx.f k ((vz x9 x11).f1) (⟨#[44,92]⟩ : ByteArray)).bind fun t104 => (if (((vz x9 x11).f0) ++ (⟨#[61]⟩ : ByteArray)).size + t104.size ≤ 9223372036854775807 then (if (x3 ++ (⟨#[44]⟩ : ByteArray)).size + ((((vz x9 x11).f0) ++ (⟨#[61]⟩ : ByteArray)) ++ t104).size ≤ 9223372036854775807 then (qzz.l0 k ((x3 ++ (⟨#[44]⟩ : ByteArray)) ++ ((((vz x9 x11).f0) ++ (⟨#[61]⟩ : ByteArray)) ++ t104)) x9 x10 (wrap64 (x11 + 1))) else (none)) else (none))) else (none)) else (none)) else (if ((vz x9 x11).f0).size + 1 ≤ 9223372036854775807 then ((qjx.f k ((vz x9 x11).f1) (⟨#[44,92]⟩ : ByteArray)).bind fun t105 => (if (((vz x9 x11).f0) ++ (⟨#[61]⟩ : ByteArray)).size + t105.size ≤ 9223372036854775807 then (if x3.size + ((((vz x9 x11).f0) ++ (⟨#[61]⟩ : ByteArray)) ++ t105).size ≤ 9223372036854775807 then (qzz.l0 k (x3 ++ ((((vz x9 x11).f0) ++ (⟨#[61]⟩ : ByteArray)) ++ t105)) x9 x10 (wrap64 (x11 + 1))) else (none)) else (none))) else (none))) else (none)) else (none)) else (some x3)
def qzz.f (k : Nat) (l0 : List (S122)) : Option (ByteArray) := (qqx.f k l0).bind fun t101 => (if t101 = true then (qzz.l0 k (⟨#[]⟩ : ByteArray) l0 (l0.length : Int) 0) else (some (⟨#[]⟩ : ByteArray)))
def qzz.T9 : Bool × List (List Nat × List Nat) := (true,[([],[]),([],[]),([1],[1]),([2],[2]),([],[]),([4],[4]),([5],[5]),([3,6],[3,6]),([0,7],[0,7]),([8,6,0,1,2,3,4,5,6,7,8],[0,8])])
def qzz.B9 : List Nat := [0,0,2,6,0,16,48,126,255,511]
theorem qzz.tab9 : rtab .any (opsOf Try.f43 9) = qzz.T9 := by kernel_rfl
theorem qzz.bits9 : waitsOk qzz.T9.2 qzz.B9 = true := by kernel_rfl
set_option maxHeartbeats 8000000 in
set_option maxRecDepth 100000 in
theorem qzz.calls (k : Nat) (A0 : Option Addr) (c0 : Nat) (l0 : List (S122)) (r : ByteArray) (w : World) (hr0 : Kd.C k122 w A0 l0.length l0) (hc0 : l0.length ≤ c0) (h : qzz.f k l0 = some r) :
  Calls Try.prog 43 #[.slice A0 l0.length c0] w fun e w' => e = .returned (.string r) ∧ Below w.heap.size w w' := by
 have hu122 := Try.underlying122
 have HR0 := qq.mk hr0
 have HC0 := qq.mk hc0
 clear hr0 hc0
 have HB := qq.mk (Below.refl w.heap.size w)
 have H : ((qqx.f k l0).bind fun t101 => (if t101 = true then (qzz.l0 k (⟨#[]⟩ : ByteArray) l0 (l0.length : Int) 0) else (some (⟨#[]⟩ : ByteArray)))) = some r := h
 clear h
 replace H := Option.bind_eq_some_iff.mp H
 obtain ⟨t101,A20,H⟩ := H
 replace H : (if t101 = true then (qzz.l0 k (⟨#[]⟩ : ByteArray) l0 (l0.length : Int) 0) else (some (⟨#[]⟩ : ByteArray))) = some r := H
 have A2 := qq.mk A20
 clear A20
 by_cases c3 : t101 = true
 ·subst c3
  have H1 : (qzz.l0 k (⟨#[]⟩ : ByteArray) l0 (l0.length : Int) 0) = some r := by rw [if_pos rfl] at H;exact H
  clear H
  have H := H1
  clear H1
  have H' := qq.mk H
  clear H
  go_enter Try.func43,Try.ntmps43
  go_wp2_with (first | ((with_reducible refine kz (f := 104) rfl ?_);refine goesL_ (some 7) rfl rfl Try.func104 (by kernel_rfl) rfl #[.slice A0 l0.length c0] rfl (by (try simp only [List.map_toArray,List.map_cons,List.map_nil]);first | done | rfl | (simp only [List.length_drop,List.length_take];rfl)) ?_;(with_reducible refine (qqx.calls k _ _ l0 true _ ?side1 ?side2 A2.out).mono ?_);(case side1 => repeat (first | exact HR0.out | (with_reducible refine Kd.C_alloc ?_ _) | (with_reducible refine Kd.C_drewN ?_ _) | (with_reducible refine Kd.C_drew ?_)));(case side2 => exact HC0.out);rintro e w4 ⟨rfl,hb⟩;refine ⟨_,rfl,?_⟩;have n0_ := qq.mk (zv (by repeat (first | (with_reducible first | exact HB.out | apply qj | apply qz | apply qk) | exact HB.out)) hb);clear HB;have HB := n0_;clear n0_;(try clear hb);(try clear hb2);(try clear hk);(try clear hi)))
  go_loopg [3,11] k (fun kq v3 v11 w' => ∃ (x3_1 : ByteArray) (x11_1 : Int),v3 = .string x3_1 ∧ v11 = .int .i64 x11_1 ∧ qq (qzz.l0 kq x3_1 l0 (l0.length : Int) x11_1 = some r) ∧ qq (kq ≤ k) ∧ qq (Below w.heap.size w w'))
  case atStart => exact ⟨((⟨#[]⟩ : ByteArray)),(0),(by first | rfl | (simp;done) | (simp [*];done)),(by first | rfl | (simp;done) | (simp [*];done)),H',⟨Nat.le_refl _⟩,⟨by repeat (first | (with_reducible first | exact HB.out | apply qj | apply qz | apply qk) | exact HB.out)⟩⟩
  case round =>
   clear H'
   try clear c1
   try clear p2
   try clear c3
   try clear c4
   obtain ⟨x3_1,x11_1,rfl,rfl,HA,HK1,HB⟩ := hrel
   cases gk with
   | zero => exact absurd HA.out (by simp [qzz.l0])
   | succ k1 =>
    have H := HA.out
    clear HA
    simp only [qzz.l0] at H
    by_cases c5 : x11_1 < (l0.length : Int)
    ·rw [if_pos c5] at H
     have c5b0 : decide (x11_1 < (l0.length : Int)) = true := decide_eq_true c5
     clear c5
     by_cases c6 : 0 ≤ x11_1
     ·rw [if_pos c6] at H
      have c6b0 : decide (0 ≤ x11_1) = true := decide_eq_true c6
      clear c6
      by_cases c7 : x11_1 < (l0.length : Int)
      ·rw [if_pos c7] at H
       have c7b0 : decide (x11_1 < (l0.length : Int)) = true := decide_eq_true c7
       clear c7
       by_cases c8 : x11_1 > 0
       ·rw [if_pos c8] at H
        have c8b0 : decide (0 < x11_1) = true := decide_eq_true c8
        clear c8
        by_cases c9 : x3_1.size + 1 ≤ 9223372036854775807
        ·rw [if_pos c9] at H
         have c9b0 := eq_true c9
         have c9b1 : decide (x3_1.size + 1 ≤ 9223372036854775807) = true := decide_eq_true c9
         try have c9b2 : (9223372036854775807 < x3_1.size + 1) = False := eq_false (Nat.not_lt.2 c9)
         by_cases c10 : ((vz l0 x11_1).f0).size + 1 ≤ 9223372036854775807
         ·rw [if_pos c10] at H
          have c10b0 := eq_true c10
          have c10b1 : decide (((vz l0 x11_1).f0).size + 1 ≤ 9223372036854775807) = true := decide_eq_true c10
          try have c10b2 : (9223372036854775807 < ((vz l0 x11_1).f0).size + 1) = False := eq_false (Nat.not_lt.2 c10)
          replace H := Option.bind_eq_some_iff.mp H
          obtain ⟨t104,A110,H⟩ := H
          replace H : (if (((vz l0 x11_1).f0) ++ (⟨#[61]⟩ : ByteArray)).size + t104.size ≤ 9223372036854775807 then (if (x3_1 ++ (⟨#[44]⟩ : ByteArray)).size + ((((vz l0 x11_1).f0) ++ (⟨#[61]⟩ : ByteArray)) ++ t104).size ≤ 9223372036854775807 then (qzz.l0 k1 ((x3_1 ++ (⟨#[44]⟩ : ByteArray)) ++ ((((vz l0 x11_1).f0) ++ (⟨#[61]⟩ : ByteArray)) ++ t104)) l0 (l0.length : Int) (wrap64 (x11_1 + 1))) else (none)) else (none)) = some r := H
          have A11 := qq.mk A110
          clear A110
          by_cases c12 : (((vz l0 x11_1).f0) ++ (⟨#[61]⟩ : ByteArray)).size + t104.size ≤ 9223372036854775807
          ·rw [if_pos c12] at H
           have c12b0 := eq_true c12
           have c12b1 : decide ((((vz l0 x11_1).f0) ++ (⟨#[61]⟩ : ByteArray)).size + t104.size ≤ 9223372036854775807) = true := decide_eq_true c12
           try have c12b2 : (9223372036854775807 < (((vz l0 x11_1).f0) ++ (⟨#[61]⟩ : ByteArray)).size + t104.size) = False := eq_false (Nat.not_lt.2 c12)
           try (have c12b9 := c12b2;simp only [ByteArray.size_append,show (⟨#[61]⟩ : ByteArray).size = 1 from rfl] at c12b9)
           by_cases c13 : (x3_1 ++ (⟨#[44]⟩ : ByteArray)).size + ((((vz l0 x11_1).f0) ++ (⟨#[61]⟩ : ByteArray)) ++ t104).size ≤ 9223372036854775807
           ·rw [if_pos c13] at H
            have c13b0 := eq_true c13
            have c13b1 : decide ((x3_1 ++ (⟨#[44]⟩ : ByteArray)).size + ((((vz l0 x11_1).f0) ++ (⟨#[61]⟩ : ByteArray)) ++ t104).size ≤ 9223372036854775807) = true := decide_eq_true c13
            try have c13b2 : (9223372036854775807 < (x3_1 ++ (⟨#[44]⟩ : ByteArray)).size + ((((vz l0 x11_1).f0) ++ (⟨#[61]⟩ : ByteArray)) ++ t104).size) = False := eq_false (Nat.not_lt.2 c13)
            try (have c13b9 := c13b2;simp only [ByteArray.size_append,show (⟨#[44]⟩ : ByteArray).size = 1 from rfl,show (⟨#[61]⟩ : ByteArray).size = 1 from rfl] at c13b9)
            have H' := qq.mk H
            clear H
            have p102 : 0 ≤ (x11_1 : Int) := of_decide_eq_true (by assumption)
            have q102 : x11_1 < (l0.length : Int) := of_decide_eq_true (by assumption)
            obtain ⟨ad102,e102,hx102_0,hx102_1⟩ := at_T122 HR0.out x11_1 p102 q102
            cases e102
            replace hx102_0 := (HB.out.cell (World.block_lt_of_cell? w _ hx102_0)).trans hx102_0
            replace hx102_1 := (HB.out.cell (World.block_lt_of_cell? w _ hx102_1)).trans hx102_1
            replace p102 := eq_true p102
            replace q102 := eq_true q102
            try go_wp2_with (first | ((with_reducible refine gate_dst (N := 5) rfl ?_);refine box_event ?hg (N := 5) ?hd (cs := #[.string (⟨#[]⟩ : ByteArray),.string (⟨#[]⟩ : ByteArray)]) (t := 122) ?hr ?_;(case hd => rfl);(case hg => rfl);(case hr => first | (go_simp;done) | (go_simp;rfl));intro gb103 hg w14 hbox hb;have n0_ := qq.mk (zv (by repeat (first | (with_reducible first | exact HB.out | apply qj | apply qz | apply qk) | exact HB.out)) hb);have n1_ := qq.mk (hbox);have n2_ := qq.mk ((by rw [hg];exact (zw (by repeat (first | (with_reducible first | exact HB.out | apply qj | apply qz | apply qk) | exact HB.out))) : w.heap.size ≤ gb103));have n3_ := qq.mk ((by rw [hg];exact (zw (by repeat (first | (with_reducible first | exact HB.out | apply qj | apply qz | apply qk) | exact HB.out))) : w.heap.size ≤ gb103));clear HB;have HB := n0_;have BK103 := n1_;have GW103 := n2_;have GE103 := n3_;clear n0_ n1_ n2_ n3_;clear hb hbox hg;have hcz15_0 : w14.cell? ⟨gb103,0,none⟩ = some (.string (⟨#[]⟩ : ByteArray)) := (qw BK103.out 0).trans rfl;have hcz15_1 : w14.cell? ⟨gb103,1,none⟩ = some (.string (⟨#[]⟩ : ByteArray)) := (qw BK103.out 1).trans rfl;have hfz15_0 := qv BK103.out 0;have hfz15_1 := qv BK103.out 1))
            have n0_ : qq (((w14.setCell ⟨gb103,0,none⟩ (.string ((vz l0 x11_1).f0))).setCell ⟨gb103,1,none⟩ (.string ((vz l0 x11_1).f1))).heap[gb103]? = some (.cells #[.string ((vz l0 x11_1).f0),.string ((vz l0 x11_1).f1)] 122 (0,0))) := ⟨by (with_reducible repeat (first | refine zz ?_ _ | refine zj ?_ | refine zq ?_ _));refine blk_put (cs := #[.string ((vz l0 x11_1).f0),.string (⟨#[]⟩ : ByteArray)]) ?_ 1 _ rfl;(with_reducible repeat (first | refine zz ?_ _ | refine zj ?_ | refine zq ?_ _));refine blk_put (cs := #[.string (⟨#[]⟩ : ByteArray),.string (⟨#[]⟩ : ByteArray)]) ?_ 0 _ rfl;(with_reducible repeat (first | refine zz ?_ _ | refine zj ?_ | refine zq ?_ _));exact BK103.out⟩
            have n1_ : qq (Below w.heap.size w ((w14.setCell ⟨gb103,0,none⟩ (.string ((vz l0 x11_1).f0))).setCell ⟨gb103,1,none⟩ (.string ((vz l0 x11_1).f1)))) := ⟨by repeat (first | (with_reducible first | exact HB.out | apply qj | apply qz | apply qk | refine qx ?_ GE103.out) | exact HB.out)⟩
            (try clear BK103)
            (try clear HB)
            generalize ((w14.setCell ⟨gb103,0,none⟩ (.string ((vz l0 x11_1).f0))).setCell ⟨gb103,1,none⟩ (.string ((vz l0 x11_1).f1))) = w16 at n0_ n1_ ⊢
            have BK103 := n0_
            have HB := n1_
            clear n0_ n1_
            have n0_ := qq.mk (zj BK103.out)
            have n1_ := qq.mk (qk HB.out)
            clear BK103
            clear HB
            have BK103 := n0_
            have HB := n1_
            clear n0_ n1_
            refine start_ (n := 10) (S := fun w' => w'.cell? ⟨gb103,0,none⟩ = some (.string ((vz l0 x11_1).f0)) ∧ w'.cell? ⟨gb103,1,none⟩ = some (.string ((vz l0 x11_1).f1))) (ds := []) #[false,false,false,false,false,false,false,false,false,false] (by kernel_rfl) rfl rfl ⟨(qw BK103.out 0).trans rfl,(qw BK103.out 1).trans rfl⟩ (fun hHeld => ?_);refine with_tabW qzz.tab9 qzz.bits9 (fun HT_ HW_ => ?_)
            generalize w16.drew = w17 at BK103 HB hHeld ⊢
            refine pure_ (i := 0) (N := some 20) (v := ?_) (a' := ?_) #[true,false,false,false,false,false,false,false,false,false] rfl rfl (any_of HT_.out (by kernel_rfl)) (fun _ _ _ h => h) (Or.inl ⟨by rfl,?_⟩) ?_ ?_
            rotate_left
            ·intro w'
             go_simp
             with_reducible rfl
            rotate_left
            ·simp only [Act.put,List.setIfInBounds_toArray,List.set_cons_zero,List.set_cons_succ,i64_w,i32_w]
             rfl
            refine pure_ (i := 1) (N := some 21) (v := ?_) (a' := ?_) #[true,true,false,false,false,false,false,false,false,false] rfl rfl (any_of HT_.out (by kernel_rfl)) (fun _ _ _ h => h) (Or.inl ⟨by rfl,?_⟩) ?_ ?_
            rotate_left
            ·intro w'
             go_simp
             with_reducible rfl
            rotate_left
            ·simp only [Act.put,List.setIfInBounds_toArray,List.set_cons_zero,List.set_cons_succ,i64_w,i32_w]
             rfl
            refine pure_ (i := 4) (N := some 24) (v := ?_) (a' := ?_) #[true,true,false,false,true,false,false,false,false,false] rfl rfl (any_of HT_.out (by kernel_rfl)) (fun _ _ _ h => h) (Or.inl ⟨by rfl,?_⟩) ?_ ?_
            rotate_left
            ·intro w'
             go_simp
             with_reducible rfl
            rotate_left
            ·simp only [Act.put,List.setIfInBounds_toArray,List.set_cons_zero,List.set_cons_succ,i64_w,i32_w]
             rfl
            refine take_ (i := 2) (N := some 22) (v := ?_) (a' := ?_) #[true,true,true,false,true,false,false,false,false,false] rfl rfl (take_ofW HT_.out HW_.out (by kernel_rfl)) (fun _ _ _ h => h) (Or.inl ⟨by rfl,?_⟩) hHeld ?_ ?_
            rotate_left
            ·rintro w' ⟨s0,s1⟩
             go_simp
             with_reducible rfl
            rotate_left
            ·simp only [Act.put,List.setIfInBounds_toArray,List.set_cons_zero,List.set_cons_succ,i64_w,i32_w]
             rfl
            refine pure_ (i := 3) (N := some 23) (v := ?_) (a' := ?_) #[true,true,true,true,true,false,false,false,false,false] rfl rfl (any_of HT_.out (by kernel_rfl)) (fun _ _ _ h => h) (Or.inl ⟨by rfl,?_⟩) ?_ ?_
            rotate_left
            ·intro w'
             go_simp
             with_reducible rfl
            rotate_left
            ·simp only [Act.put,List.setIfInBounds_toArray,List.set_cons_zero,List.set_cons_succ,i64_w,i32_w]
             rfl
            refine take_ (i := 5) (N := some 25) (v := ?_) (a' := ?_) #[true,true,true,true,true,true,false,false,false,false] rfl rfl (take_ofW HT_.out HW_.out (by kernel_rfl)) (fun _ _ _ h => h) (Or.inl ⟨by rfl,?_⟩) hHeld ?_ ?_
            rotate_left
            ·rintro w' ⟨s0,s1⟩
             go_simp
             with_reducible rfl
            rotate_left
            ·simp only [Act.put,List.setIfInBounds_toArray,List.set_cons_zero,List.set_cons_succ,i64_w,i32_w]
             rfl
            refine one_ (i := 6) (N := some 26) #[true,true,true,true,true,true,true,false,false,false] rfl rfl (one_of HT_.out (by kernel_rfl)) (by decide) (fun K hK => ?_)
            refine goes_ Try.func58 (by kernel_rfl) rfl #[.string ((vz l0 x11_1).f1),.string (⟨#[44,92]⟩ : ByteArray)] (by rfl) rfl rfl (by (try simp only [List.map_toArray,List.map_cons,List.map_nil]);first | done | rfl | (simp only [List.length_drop,List.length_take];rfl)) ?_
            with_reducible refine (qjx.calls k1 ((vz l0 x11_1).f1) (⟨#[44,92]⟩ : ByteArray) t104 _ A11.out).mono ?_
            rintro e w18 ⟨rfl,hb⟩
            refine ⟨_,rfl,?_⟩
            have n0_ := qq.mk (kw (g := gb103) (o := .cells #[.string ((vz l0 x11_1).f0),.string ((vz l0 x11_1).f1)] 122 (0,0)) (by (with_reducible repeat (first | refine zz ?_ _ | refine zj ?_ | refine zq ?_ _));exact BK103.out) hb)
            have n1_ := qq.mk (zv (by repeat (first | (with_reducible first | exact HB.out | apply qj | apply qz | apply qk | refine qx ?_ GE103.out) | exact HB.out)) hb)
            clear BK103
            clear HB
            have BK103 := n0_
            have HB := n1_
            clear n0_ n1_
            (try clear hb)
            (try clear hb2)
            (try clear hk)
            (try clear hi)
            refine hK.out _ _ ⟨(qw BK103.out 0).trans rfl,(qw BK103.out 1).trans rfl⟩ (fun hHeld => ?_)
            clear hK K
            refine norm_ (a' := ?_) ?_ ?_
            rotate_left
            ·show Act.put _ (some 26) _ = _
             simp only [Act.put,List.setIfInBounds_toArray,List.set_cons_zero,List.set_cons_succ,i64_w,i32_w]
             rfl
            refine pure_ (i := 7) (N := some 27) (v := ?_) (a' := ?_) #[true,true,true,true,true,true,true,true,false,false] rfl rfl (any_of HT_.out (by kernel_rfl)) (fun _ _ _ h => h) (Or.inl ⟨by rfl,?_⟩) ?_ ?_
            rotate_left
            ·intro w'
             go_simp
             with_reducible rfl
            rotate_left
            ·simp only [Act.put,List.setIfInBounds_toArray,List.set_cons_zero,List.set_cons_succ,i64_w,i32_w]
             rfl
            refine pure_ (i := 8) (N := some 28) (v := ?_) (a' := ?_) #[true,true,true,true,true,true,true,true,true,false] rfl rfl (any_of HT_.out (by kernel_rfl)) (fun _ _ _ h => h) (Or.inl ⟨by rfl,?_⟩) ?_ ?_
            rotate_left
            ·intro w'
             go_simp
             with_reducible rfl
            rotate_left
            ·simp only [Act.put,List.setIfInBounds_toArray,List.set_cons_zero,List.set_cons_succ,i64_w,i32_w]
             rfl
            refine pure_ (i := 9) (N := some 3) (v := ?_) (a' := ?_) #[true,true,true,true,true,true,true,true,true,true] rfl rfl (any_of HT_.out (by kernel_rfl)) (fun _ _ _ h => h) (Or.inl ⟨by rfl,?_⟩) ?_ ?_
            rotate_left
            ·intro w'
             go_simp
             with_reducible rfl
            rotate_left
            ·simp only [Act.put,List.setIfInBounds_toArray,List.set_cons_zero,List.set_cons_succ,i64_w,i32_w]
             rfl
            refine done_ (done_of HT_.out (by kernel_rfl)) ?_
            try go_wp2
            go_roundg k1
            case measure => have := HK1.out;omega
            case rel => exact ⟨((x3_1 ++ (⟨#[44]⟩ : ByteArray)) ++ ((((vz l0 x11_1).f0) ++ (⟨#[61]⟩ : ByteArray)) ++ t104)),(wrap64 (x11_1 + 1)),(by first | rfl | (simp;done) | (simp [*];done)),(by first | rfl | (simp;done) | (simp [*];done)),H',⟨by have := HK1.out;omega⟩,⟨by repeat (first | (with_reducible first | exact HB.out | apply qj | apply qz | apply qk | refine qx ?_ GE103.out) | exact HB.out)⟩⟩
           ·rw [if_neg c13] at H
            exact absurd H (by simp)
          ·rw [if_neg c12] at H
           exact absurd H (by simp)
         ·rw [if_neg c10] at H
          exact absurd H (by simp)
        ·rw [if_neg c9] at H
         exact absurd H (by simp)
       ·rw [if_neg c8] at H
        have c8b0 : decide (0 < x11_1) = false := decide_eq_false c8
        clear c8
        by_cases c19 : ((vz l0 x11_1).f0).size + 1 ≤ 9223372036854775807
        ·rw [if_pos c19] at H
         have c19b0 := eq_true c19
         have c19b1 : decide (((vz l0 x11_1).f0).size + 1 ≤ 9223372036854775807) = true := decide_eq_true c19
         try have c19b2 : (9223372036854775807 < ((vz l0 x11_1).f0).size + 1) = False := eq_false (Nat.not_lt.2 c19)
         replace H := Option.bind_eq_some_iff.mp H
         obtain ⟨t105,A200,H⟩ := H
         replace H : (if (((vz l0 x11_1).f0) ++ (⟨#[61]⟩ : ByteArray)).size + t105.size ≤ 9223372036854775807 then (if x3_1.size + ((((vz l0 x11_1).f0) ++ (⟨#[61]⟩ : ByteArray)) ++ t105).size ≤ 9223372036854775807 then (qzz.l0 k1 (x3_1 ++ ((((vz l0 x11_1).f0) ++ (⟨#[61]⟩ : ByteArray)) ++ t105)) l0 (l0.length : Int) (wrap64 (x11_1 + 1))) else (none)) else (none)) = some r := H
         have A20 := qq.mk A200
         clear A200
         by_cases c21 : (((vz l0 x11_1).f0) ++ (⟨#[61]⟩ : ByteArray)).size + t105.size ≤ 9223372036854775807
         ·rw [if_pos c21] at H
          have c21b0 := eq_true c21
          have c21b1 : decide ((((vz l0 x11_1).f0) ++ (⟨#[61]⟩ : ByteArray)).size + t105.size ≤ 9223372036854775807) = true := decide_eq_true c21
          try have c21b2 : (9223372036854775807 < (((vz l0 x11_1).f0) ++ (⟨#[61]⟩ : ByteArray)).size + t105.size) = False := eq_false (Nat.not_lt.2 c21)
          try (have c21b9 := c21b2;simp only [ByteArray.size_append,show (⟨#[61]⟩ : ByteArray).size = 1 from rfl] at c21b9)
          by_cases c22 : x3_1.size + ((((vz l0 x11_1).f0) ++ (⟨#[61]⟩ : ByteArray)) ++ t105).size ≤ 9223372036854775807
          ·rw [if_pos c22] at H
           have c22b0 := eq_true c22
           have c22b1 : decide (x3_1.size + ((((vz l0 x11_1).f0) ++ (⟨#[61]⟩ : ByteArray)) ++ t105).size ≤ 9223372036854775807) = true := decide_eq_true c22
           try have c22b2 : (9223372036854775807 < x3_1.size + ((((vz l0 x11_1).f0) ++ (⟨#[61]⟩ : ByteArray)) ++ t105).size) = False := eq_false (Nat.not_lt.2 c22)
           try (have c22b9 := c22b2;simp only [ByteArray.size_append,show (⟨#[61]⟩ : ByteArray).size = 1 from rfl] at c22b9)
           have H' := qq.mk H
           clear H
           have p102 : 0 ≤ (x11_1 : Int) := of_decide_eq_true (by assumption)
           have q102 : x11_1 < (l0.length : Int) := of_decide_eq_true (by assumption)
           obtain ⟨ad102,e102,hx102_0,hx102_1⟩ := at_T122 HR0.out x11_1 p102 q102
           cases e102
           replace hx102_0 := (HB.out.cell (World.block_lt_of_cell? w _ hx102_0)).trans hx102_0
           replace hx102_1 := (HB.out.cell (World.block_lt_of_cell? w _ hx102_1)).trans hx102_1
           replace p102 := eq_true p102
           replace q102 := eq_true q102
           try go_wp2_with (first | ((with_reducible refine gate_dst (N := 5) rfl ?_);refine box_event ?hg (N := 5) ?hd (cs := #[.string (⟨#[]⟩ : ByteArray),.string (⟨#[]⟩ : ByteArray)]) (t := 122) ?hr ?_;(case hd => rfl);(case hg => rfl);(case hr => first | (go_simp;done) | (go_simp;rfl));intro gb103 hg w23 hbox hb;have n0_ := qq.mk (zv (by repeat (first | (with_reducible first | exact HB.out | apply qj | apply qz | apply qk) | exact HB.out)) hb);have n1_ := qq.mk (hbox);have n2_ := qq.mk ((by rw [hg];exact (zw (by repeat (first | (with_reducible first | exact HB.out | apply qj | apply qz | apply qk) | exact HB.out))) : w.heap.size ≤ gb103));have n3_ := qq.mk ((by rw [hg];exact (zw (by repeat (first | (with_reducible first | exact HB.out | apply qj | apply qz | apply qk) | exact HB.out))) : w.heap.size ≤ gb103));clear HB;have HB := n0_;have BK103 := n1_;have GW103 := n2_;have GE103 := n3_;clear n0_ n1_ n2_ n3_;clear hb hbox hg;have hcz24_0 : w23.cell? ⟨gb103,0,none⟩ = some (.string (⟨#[]⟩ : ByteArray)) := (qw BK103.out 0).trans rfl;have hcz24_1 : w23.cell? ⟨gb103,1,none⟩ = some (.string (⟨#[]⟩ : ByteArray)) := (qw BK103.out 1).trans rfl;have hfz24_0 := qv BK103.out 0;have hfz24_1 := qv BK103.out 1))
           have n0_ : qq (((w23.setCell ⟨gb103,0,none⟩ (.string ((vz l0 x11_1).f0))).setCell ⟨gb103,1,none⟩ (.string ((vz l0 x11_1).f1))).heap[gb103]? = some (.cells #[.string ((vz l0 x11_1).f0),.string ((vz l0 x11_1).f1)] 122 (0,0))) := ⟨by (with_reducible repeat (first | refine zz ?_ _ | refine zj ?_ | refine zq ?_ _));refine blk_put (cs := #[.string ((vz l0 x11_1).f0),.string (⟨#[]⟩ : ByteArray)]) ?_ 1 _ rfl;(with_reducible repeat (first | refine zz ?_ _ | refine zj ?_ | refine zq ?_ _));refine blk_put (cs := #[.string (⟨#[]⟩ : ByteArray),.string (⟨#[]⟩ : ByteArray)]) ?_ 0 _ rfl;(with_reducible repeat (first | refine zz ?_ _ | refine zj ?_ | refine zq ?_ _));exact BK103.out⟩
           have n1_ : qq (Below w.heap.size w ((w23.setCell ⟨gb103,0,none⟩ (.string ((vz l0 x11_1).f0))).setCell ⟨gb103,1,none⟩ (.string ((vz l0 x11_1).f1)))) := ⟨by repeat (first | (with_reducible first | exact HB.out | apply qj | apply qz | apply qk | refine qx ?_ GE103.out) | exact HB.out)⟩
           (try clear BK103)
           (try clear HB)
           generalize ((w23.setCell ⟨gb103,0,none⟩ (.string ((vz l0 x11_1).f0))).setCell ⟨gb103,1,none⟩ (.string ((vz l0 x11_1).f1))) = w25 at n0_ n1_ ⊢
           have BK103 := n0_
           have HB := n1_
           clear n0_ n1_
           have n0_ := qq.mk (zj BK103.out)
           have n1_ := qq.mk (qk HB.out)
           clear BK103
           clear HB
           have BK103 := n0_
           have HB := n1_
           clear n0_ n1_
           refine start_ (n := 10) (S := fun w' => w'.cell? ⟨gb103,0,none⟩ = some (.string ((vz l0 x11_1).f0)) ∧ w'.cell? ⟨gb103,1,none⟩ = some (.string ((vz l0 x11_1).f1))) (ds := []) #[false,false,false,false,false,false,false,false,false,false] (by kernel_rfl) rfl rfl ⟨(qw BK103.out 0).trans rfl,(qw BK103.out 1).trans rfl⟩ (fun hHeld => ?_);refine with_tabW qzz.tab9 qzz.bits9 (fun HT_ HW_ => ?_)
           generalize w25.drew = w26 at BK103 HB hHeld ⊢
           refine pure_ (i := 0) (N := some 20) (v := ?_) (a' := ?_) #[true,false,false,false,false,false,false,false,false,false] rfl rfl (any_of HT_.out (by kernel_rfl)) (fun _ _ _ h => h) (Or.inl ⟨by rfl,?_⟩) ?_ ?_
           rotate_left
           ·intro w'
            go_simp
            with_reducible rfl
           rotate_left
           ·simp only [Act.put,List.setIfInBounds_toArray,List.set_cons_zero,List.set_cons_succ,i64_w,i32_w]
            rfl
           refine pure_ (i := 1) (N := some 21) (v := ?_) (a' := ?_) #[true,true,false,false,false,false,false,false,false,false] rfl rfl (any_of HT_.out (by kernel_rfl)) (fun _ _ _ h => h) (Or.inl ⟨by rfl,?_⟩) ?_ ?_
           rotate_left
           ·intro w'
            go_simp
            with_reducible rfl
           rotate_left
           ·simp only [Act.put,List.setIfInBounds_toArray,List.set_cons_zero,List.set_cons_succ,i64_w,i32_w]
            rfl
           refine pure_ (i := 4) (N := some 24) (v := ?_) (a' := ?_) #[true,true,false,false,true,false,false,false,false,false] rfl rfl (any_of HT_.out (by kernel_rfl)) (fun _ _ _ h => h) (Or.inl ⟨by rfl,?_⟩) ?_ ?_
           rotate_left
           ·intro w'
            go_simp
            with_reducible rfl
           rotate_left
           ·simp only [Act.put,List.setIfInBounds_toArray,List.set_cons_zero,List.set_cons_succ,i64_w,i32_w]
            rfl
           refine take_ (i := 2) (N := some 22) (v := ?_) (a' := ?_) #[true,true,true,false,true,false,false,false,false,false] rfl rfl (take_ofW HT_.out HW_.out (by kernel_rfl)) (fun _ _ _ h => h) (Or.inl ⟨by rfl,?_⟩) hHeld ?_ ?_
           rotate_left
           ·rintro w' ⟨s0,s1⟩
            go_simp
            with_reducible rfl
           rotate_left
           ·simp only [Act.put,List.setIfInBounds_toArray,List.set_cons_zero,List.set_cons_succ,i64_w,i32_w]
            rfl
           refine pure_ (i := 3) (N := some 23) (v := ?_) (a' := ?_) #[true,true,true,true,true,false,false,false,false,false] rfl rfl (any_of HT_.out (by kernel_rfl)) (fun _ _ _ h => h) (Or.inl ⟨by rfl,?_⟩) ?_ ?_
           rotate_left
           ·intro w'
            go_simp
            with_reducible rfl
           rotate_left
           ·simp only [Act.put,List.setIfInBounds_toArray,List.set_cons_zero,List.set_cons_succ,i64_w,i32_w]
            rfl
           refine take_ (i := 5) (N := some 25) (v := ?_) (a' := ?_) #[true,true,true,true,true,true,false,false,false,false] rfl rfl (take_ofW HT_.out HW_.out (by kernel_rfl)) (fun _ _ _ h => h) (Or.inl ⟨by rfl,?_⟩) hHeld ?_ ?_
           rotate_left
           ·rintro w' ⟨s0,s1⟩
            go_simp
            with_reducible rfl
           rotate_left
           ·simp only [Act.put,List.setIfInBounds_toArray,List.set_cons_zero,List.set_cons_succ,i64_w,i32_w]
            rfl
           refine one_ (i := 6) (N := some 26) #[true,true,true,true,true,true,true,false,false,false] rfl rfl (one_of HT_.out (by kernel_rfl)) (by decide) (fun K hK => ?_)
           refine goes_ Try.func58 (by kernel_rfl) rfl #[.string ((vz l0 x11_1).f1),.string (⟨#[44,92]⟩ : ByteArray)] (by rfl) rfl rfl (by (try simp only [List.map_toArray,List.map_cons,List.map_nil]);first | done | rfl | (simp only [List.length_drop,List.length_take];rfl)) ?_
           with_reducible refine (qjx.calls k1 ((vz l0 x11_1).f1) (⟨#[44,92]⟩ : ByteArray) t105 _ A20.out).mono ?_
           rintro e w27 ⟨rfl,hb⟩
           refine ⟨_,rfl,?_⟩
           have n0_ := qq.mk (kw (g := gb103) (o := .cells #[.string ((vz l0 x11_1).f0),.string ((vz l0 x11_1).f1)] 122 (0,0)) (by (with_reducible repeat (first | refine zz ?_ _ | refine zj ?_ | refine zq ?_ _));exact BK103.out) hb)
           have n1_ := qq.mk (zv (by repeat (first | (with_reducible first | exact HB.out | apply qj | apply qz | apply qk | refine qx ?_ GE103.out) | exact HB.out)) hb)
           clear BK103
           clear HB
           have BK103 := n0_
           have HB := n1_
           clear n0_ n1_
           (try clear hb)
           (try clear hb2)
           (try clear hk)
           (try clear hi)
           refine hK.out _ _ ⟨(qw BK103.out 0).trans rfl,(qw BK103.out 1).trans rfl⟩ (fun hHeld => ?_)
           clear hK K
           refine norm_ (a' := ?_) ?_ ?_
           rotate_left
           ·show Act.put _ (some 26) _ = _
            simp only [Act.put,List.setIfInBounds_toArray,List.set_cons_zero,List.set_cons_succ,i64_w,i32_w]
            rfl
           refine pure_ (i := 7) (N := some 27) (v := ?_) (a' := ?_) #[true,true,true,true,true,true,true,true,false,false] rfl rfl (any_of HT_.out (by kernel_rfl)) (fun _ _ _ h => h) (Or.inl ⟨by rfl,?_⟩) ?_ ?_
           rotate_left
           ·intro w'
            go_simp
            with_reducible rfl
           rotate_left
           ·simp only [Act.put,List.setIfInBounds_toArray,List.set_cons_zero,List.set_cons_succ,i64_w,i32_w]
            rfl
           refine pure_ (i := 8) (N := some 28) (v := ?_) (a' := ?_) #[true,true,true,true,true,true,true,true,true,false] rfl rfl (any_of HT_.out (by kernel_rfl)) (fun _ _ _ h => h) (Or.inl ⟨by rfl,?_⟩) ?_ ?_
           rotate_left
           ·intro w'
            go_simp
            with_reducible rfl
           rotate_left
           ·simp only [Act.put,List.setIfInBounds_toArray,List.set_cons_zero,List.set_cons_succ,i64_w,i32_w]
            rfl
           refine pure_ (i := 9) (N := some 3) (v := ?_) (a' := ?_) #[true,true,true,true,true,true,true,true,true,true] rfl rfl (any_of HT_.out (by kernel_rfl)) (fun _ _ _ h => h) (Or.inl ⟨by rfl,?_⟩) ?_ ?_
           rotate_left
           ·intro w'
            go_simp
            with_reducible rfl
           rotate_left
           ·simp only [Act.put,List.setIfInBounds_toArray,List.set_cons_zero,List.set_cons_succ,i64_w,i32_w]
            rfl
           refine done_ (done_of HT_.out (by kernel_rfl)) ?_
           try go_wp2
           go_roundg k1
           case measure => have := HK1.out;omega
           case rel => exact ⟨(x3_1 ++ ((((vz l0 x11_1).f0) ++ (⟨#[61]⟩ : ByteArray)) ++ t105)),(wrap64 (x11_1 + 1)),(by first | rfl | (simp;done) | (simp [*];done)),(by first | rfl | (simp;done) | (simp [*];done)),H',⟨by have := HK1.out;omega⟩,⟨by repeat (first | (with_reducible first | exact HB.out | apply qj | apply qz | apply qk | refine qx ?_ GE103.out) | exact HB.out)⟩⟩
          ·rw [if_neg c22] at H
           exact absurd H (by simp)
         ·rw [if_neg c21] at H
          exact absurd H (by simp)
        ·rw [if_neg c19] at H
         exact absurd H (by simp)
      ·rw [if_neg c7] at H
       exact absurd H (by simp)
     ·rw [if_neg c6] at H
      exact absurd H (by simp)
    ·rw [if_neg c5] at H
     have c5b0 : decide (x11_1 < (l0.length : Int)) = false := decide_eq_false c5
     clear c5
     obtain rfl := Option.some.inj H
     go_wp2
     go_ret
     exact ⟨by first | rfl | (simp [*,jx,jw] <;> rfl),by repeat (first | (with_reducible first | exact HB.out | apply qj | apply qz | apply qk) | exact HB.out)⟩
 ·replace c3 := Bool.eq_false_iff.mpr c3
  subst c3
  have H1 : (some (⟨#[]⟩ : ByteArray)) = some r := by rw [if_neg (show ¬ (false = true) by decide)] at H;exact H
  clear H
  have H := H1
  clear H1
  obtain rfl := Option.some.inj H
  go_enter Try.func43,Try.ntmps43
  go_wp2_with (first | ((with_reducible refine kz (f := 104) rfl ?_);refine goesL_ (some 7) rfl rfl Try.func104 (by kernel_rfl) rfl #[.slice A0 l0.length c0] rfl (by (try simp only [List.map_toArray,List.map_cons,List.map_nil]);first | done | rfl | (simp only [List.length_drop,List.length_take];rfl)) ?_;(with_reducible refine (qqx.calls k _ _ l0 false _ ?side1 ?side2 A2.out).mono ?_);(case side1 => repeat (first | exact HR0.out | (with_reducible refine Kd.C_alloc ?_ _) | (with_reducible refine Kd.C_drewN ?_ _) | (with_reducible refine Kd.C_drew ?_)));(case side2 => exact HC0.out);rintro e w28 ⟨rfl,hb⟩;refine ⟨_,rfl,?_⟩;have n0_ := qq.mk (zv (by repeat (first | (with_reducible first | exact HB.out | apply qj | apply qz | apply qk) | exact HB.out)) hb);clear HB;have HB := n0_;clear n0_;(try clear hb);(try clear hb2);(try clear hk);(try clear hi)))
  go_ret
  exact ⟨by first | rfl | (simp [*,jx,jw] <;> rfl),by repeat (first | (with_reducible first | exact HB.out | apply qj | apply qz | apply qk) | exact HB.out)⟩
end Go.Proofs.Ytccbjchlcelkgaa.Pr
namespace Go.Proofs.Ytccbjchlcelkgaa.Pr
open Go.RowKit Go.Proofs.YtccbjchlcelkgaaW.PrintWords Go.Proofs.YtccbjchlcelkgaaW.PrintLast Go.Proofs.YtccbjchlcelkgaaW.PrintMore
set_option linter.unusedVariables false
set_option linter.unusedSimpArgs false
set_option maxHeartbeats 1000000 in
set_option maxRecDepth 100000 in
theorem lite_Index1 (s : ByteArray) (c : UInt8) (w : World) :
  Calls Try.prog 181 #[.string s,.string ⟨#[c]⟩] w fun e w' => e = .returned (.int .i64 (Lib.indexByte s.data.toList c)) ∧ w' = w := by
 have hC := lite_IndexByte s (c.toNat : Int)
 rw [show ((c.toNat : Int)).toNat.toUInt8 = c from by simp] at hC
 by_cases he : ([c] == s.toList) = true
 ·have h0 : Lib.indexByte s.data.toList c = 0 := by
   have h1 : [c] = s.toList := eq_of_beq he
   rw [← ByteArray.toList_eq,← h1]
   simp [Lib.indexByte]
  rw [h0]
  clear h0
  go_enter Try.func181,Try.ntmps181
  go_wp2_with (go_at_call 125;refine (hC _).mono ?_;rintro e w' ⟨rfl,rfl⟩)
  go_ret
  exact ⟨rfl,rfl⟩
 ·have he0 : ([c] == s.toList) = false := Bool.eq_false_iff.2 he
  clear he
  go_enter Try.func181,Try.ntmps181
  go_wp2_with (go_at_call 125;refine (hC _).mono ?_;rintro e w' ⟨rfl,rfl⟩)
  go_ret
  exact ⟨rfl,rfl⟩
set_option maxHeartbeats 1000000 in
set_option maxRecDepth 100000 in
theorem lite_Cut1 (s : ByteArray) (c : UInt8) (i : Int) (hi : Lib.indexByte s.data.toList c = i) (h0 : 0 ≤ i) (h1 : i < (s.size : Int)) (hs : (s.size : Int) ≤ 9223372036854775807) (w : World) :
  Calls Try.prog 149 #[.string s,.string ⟨#[c]⟩] w fun e w' => e = .returned (.tuple #[.string (s.extract 0 i.toNat),.string (s.extract (i + 1).toNat s.size),.bool true]) ∧ Drawn0 w w' := by
 have hC := fun W => lite_Index1 s c W
 rw [hi] at hC
 clear hi
 go_enter Try.func149,Try.ntmps149
 go_wp2_with (go_at_call 181;refine (hC _).mono ?_;rintro e w' ⟨rfl,rfl⟩)
 repeat (go_quiet (fail);try go_wp2)
 go_ret3
 exact ⟨rfl,by repeat (first | exact Drawn0.refl _ | apply Drawn0.step)⟩
set_option maxHeartbeats 1000000 in
set_option maxRecDepth 100000 in
theorem lite_Cut0 (s : ByteArray) (c : UInt8) (i : Int) (hi : Lib.indexByte s.data.toList c = i) (h0 : i < 0) (w : World) :
  Calls Try.prog 149 #[.string s,.string ⟨#[c]⟩] w fun e w' => e = .returned (.tuple #[.string s,.string ⟨#[]⟩,.bool false]) ∧ Drawn0 w w' := by
 have hC := fun W => lite_Index1 s c W
 rw [hi] at hC
 have q0 : decide (0 ≤ i) = false := decide_eq_false (by omega)
 clear hi
 go_enter Try.func149,Try.ntmps149
 go_wp2_with (go_at_call 181;refine (hC _).mono ?_;rintro e w' ⟨rfl,rfl⟩)
 go_ret3
 exact ⟨rfl,Drawn0.refl _⟩
def cut1 (s : ByteArray) (c : UInt8) : ByteArray × ByteArray × Bool := if 0 ≤ Lib.indexByte s.data.toList c then (s.extract 0 (Lib.indexByte s.data.toList c).toNat,s.extract (Lib.indexByte s.data.toList c + 1).toNat s.size,true) else (s,⟨#[]⟩,false)
def qkq.f (a0 a1 : ByteArray) : Option (ByteArray × ByteArray × Bool) := if (a0.size : Int) ≤ 9223372036854775807 then (match a1.data.toList with | [c] => some (cut1 a0 c) | _ => none) else none
theorem indexByte_lt (c : UInt8) : ∀ l : List UInt8,Lib.indexByte l c < (l.length : Int)
 | [] => by simp [Lib.indexByte]
 | b :: l => by
  have := indexByte_lt c l
  unfold Lib.indexByte
  rw [List.length_cons]
  split
  ·omega
  ·split <;> omega
set_option maxHeartbeats 1000000 in
set_option maxRecDepth 100000 in
theorem qkq.calls (a0 a1 : ByteArray) (r1 r2 : ByteArray) (r3 : Bool) (w : World) (h : qkq.f a0 a1 = some (r1,r2,r3)) :
  Calls Try.prog 105 #[.string a0,.string a1] w fun e w' => e = .returned (.tuple #[.string r1,.string r2,.bool r3]) ∧ Drawn0 w w' := by
 unfold qkq.f at h
 by_cases hs : (a0.size : Int) ≤ 9223372036854775807
 case neg => rw [if_neg hs] at h;cases h
 rw [if_pos hs] at h
 obtain ⟨c,rfl⟩ : ∃ c,a1 = ⟨#[c]⟩ := by
  split at h
  ·rename_i c hc
   exact ⟨c,ByteArray.ext (Array.toList_inj.1 hc)⟩
  ·cases h
 have h2 : cut1 a0 c = (r1,r2,r3) := by simpa using h
 clear h
 have hC : ∀ W,Calls Try.prog 149 #[.string a0,.string ⟨#[c]⟩] W fun e w' => e = .returned (.tuple #[.string r1,.string r2,.bool r3]) ∧ Drawn0 W w' := by
  intro W
  unfold cut1 at h2
  by_cases h0 : 0 ≤ Lib.indexByte a0.data.toList c
  ·rw [if_pos h0] at h2
   simp only [Prod.mk.injEq] at h2
   obtain ⟨rfl,rfl,rfl⟩ := h2
   have hlt : Lib.indexByte a0.data.toList c < (a0.size : Int) := by
    have h := indexByte_lt c a0.data.toList
    simpa using h
   exact lite_Cut1 a0 c _ rfl h0 hlt hs W
  ·rw [if_neg h0] at h2
   simp only [Prod.mk.injEq] at h2
   obtain ⟨rfl,rfl,rfl⟩ := h2
   exact lite_Cut0 a0 c _ rfl (by omega) W
 clear h2
 go_enter Try.func105,Try.ntmps105
 go_wp2_with (go_at_call 149;refine (hC _).mono ?_;rintro e w' ⟨rfl,⟨⟨nd,rfl⟩⟩⟩)
 go_ret3
 exact ⟨rfl,⟨⟨_,rfl⟩⟩⟩
end Go.Proofs.Ytccbjchlcelkgaa.Pr
namespace Go.Proofs.Ytccbjchlcelkgaa.Pr
open Go.RowKit Go.Proofs.YtccbjchlcelkgaaW.PrintWords Go.Proofs.YtccbjchlcelkgaaW.PrintLast Go.Proofs.YtccbjchlcelkgaaW.PrintMore
attribute [local go_sem] max2_int min2_int max_two min_two max_three min_three max_four min_four
set_option linter.unusedVariables false
set_option linter.unusedSimpArgs false
mutual
def wx.l0 : Nat → ByteArray → List (S122) → ByteArray → Bool → Option ((List (S122)) × Bool)
 | 0,_,_,_,_ => none
 | k + 1,x0,x4,x5,x6 => if x6 = true then ((qkq.f x5 (⟨#[61]⟩ : ByteArray)).bind fun bt101 => (if bt101.2.2 = true then (wx.l1 k x0 x4 x5 false bt101.2.1 0 bt101.1 (⟨#[]⟩ : ByteArray)) else (some (([] : List (S122)),false)))) else ((wq.f k x4).bind fun t111 => (if t111 = true then ((wv.f k x4).bind fun t112 => (if t112.toList = x0.toList then (some (x4,true)) else (some (([] : List (S122)),false)))) else (some (([] : List (S122)),false))))
def wx.l1 : Nat → ByteArray → List (S122) → ByteArray → Bool → ByteArray → Int → ByteArray → ByteArray → Option ((List (S122)) × Bool)
 | 0,_,_,_,_,_,_,_,_ => none
 | k + 1,x0,x4,x5,x6,x8,x11,x105000,x105001 => if x11 < (x8.size : Int) then (if 0 ≤ x11 then (if (bt x8 x11) = 44 then (if x4.length < 4398046511104 then (if 0 ≤ (wrap64 (x11 + 1)) then (if (wrap64 (x11 + 1)) ≤ (x8.size : Int) then (wx.l0 k x0 (x4 ++ [(⟨x105000,x105001⟩ : S122)]) (x8.extract ((wrap64 (x11 + 1)) : Int).toNat x8.size) true) else (none)) else (none)) else (none)) else (if (bt x8 x11) = 92 then (if (wrap64 (x11 + 1)) = (x8.size : Int) then (some (([] : List (S122)),false)) else (if 0 ≤ (wrap64 (x11 + 1)) then (if (wrap64 (x11 + 1)) ≤ (wrap64 ((wrap64 (x11 + 1)) + 1)) then (if (wrap64 ((wrap64 (x11 + 1)) + 1)) ≤ (x8.size : Int) then (if x105001.size + (x8.extract ((wrap64 (x11 + 1)) : Int).toNat ((wrap64 ((wrap64 (x11 + 1)) + 1)) : Int).toNat).size ≤ 9223372036854775807 then (wx.l1 k x0 x4 x5 x6 x8 (wrap64 ((wrap64 (x11 + 1)) + 1)) x105000 (x105001 ++ (x8.extract ((wrap64 (x11 + 1)) : Int).toNat ((wrap64 ((wrap64 (x11 + 1)) + 1)) : Int).toNat))) else (none)) else (none)) else (none)) else (none))) else (if x11 ≤ (wrap64 (x11 + 1)) then (if (wrap64 (x11 + 1)) ≤ (x8.size : Int) then (if x105001.size + (x8.extract (x11 : Int).toNat ((wrap64 (x11 + 1)) : Int).toNat).size ≤ 9223372036854775807 then (wx.l1 k x0 x4 x5 x6 x8 (wrap64 (x11 + 1)) x105000 (x105001 ++ (x8.extract (x11 : Int).toNat ((wrap64 (x11 + 1)) : Int).toNat))) else (none)) else (none)) else (none)))) else (none)) else (if x4.length < 4398046511104 then ((some (x4 ++ [(⟨x105000,x105001⟩ : S122)] : List (S122))).bind fun y105 => (if x6 = true then (if 0 ≤ (wrap64 (x11 + 1)) then (if (wrap64 (x11 + 1)) ≤ (x8.size : Int) then (wx.l0 k x0 y105 (x8.extract ((wrap64 (x11 + 1)) : Int).toNat x8.size) x6) else (none)) else (none)) else (wx.l0 k x0 y105 x5 x6))) else (none))
end
def wx.f (k : Nat) (a0 : ByteArray) : Option ((List (S122)) × Bool) := if a0.toList = ([] : List UInt8) then (some (([] : List (S122)),true)) else (if (a0.size : Int) > 2000 then (some (([] : List (S122)),false)) else (wx.l0 k a0 ([] : List (S122)) a0 true))
def wx.T22 : Bool × List (List Nat × List Nat) := (true,[([],[]),([0],[0]),([],[]),([],[]),([],[]),([4],[4]),([2,3,5],[2,3,5]),([1,6],[1,6]),([0,1,2,3,4,5,6,7],[]),([8,7,0,1,2,3,4,5,6,7],[7,8])])
def wx.B22 : List Nat := [0,1,0,0,0,16,60,127,255,511]
theorem wx.tab22 : rtab .any (opsOf Try.f44 22) = wx.T22 := by kernel_rfl
theorem wx.bits22 : waitsOk wx.T22.2 wx.B22 = true := by kernel_rfl
set_option maxHeartbeats 8000000 in
set_option maxRecDepth 100000 in
theorem wx.calls (k : Nat) (a0 : ByteArray) (r1 : List (S122)) (r2 : Bool) (w : World) (h : wx.f k a0 = some (r1,r2)) :
  Calls Try.prog 44 #[.string a0] w fun e w' => ∃ v0_ : Value,e = .returned (.tuple #[v0_,.bool r2]) ∧ Kd.R k122 122 w' w.heap.size (fun _ => True) v0_ r1 ∧ Below w.heap.size w w' := by
 have hu122 := Try.underlying122
 have HB := qq.mk (Below.refl w.heap.size w)
 have H : (if a0.toList = ([] : List UInt8) then (some (([] : List (S122)),true)) else (if (a0.size : Int) > 2000 then (some (([] : List (S122)),false)) else (wx.l0 k a0 ([] : List (S122)) a0 true))) = some (r1,r2) := h
 clear h
 by_cases c2 : a0.toList = ([] : List UInt8)
 ·rw [if_pos c2] at H
  have c2b0 : (a0.toList == ([] : List UInt8)) = true := beq_iff_eq.mpr c2
  have c2b1 : (a0.toList != ([] : List UInt8)) = false := bne_eq_false_iff_eq.mpr c2
  clear c2
  simp only [Option.some.injEq,Prod.mk.injEq] at H
  obtain ⟨rfl,rfl⟩ := H
  go_enter Try.func44,Try.ntmps44
  go_wp2
  go_ret2
  exact ⟨_,by first | rfl | (simp [*,jx,jw] <;> rfl),by first | exact Kd.R_nil _ _ _ _ _ | exact Kd.N_nil _ _ _ _ _ | exact Kd.V_nil _ _ _ _ _ | exact Kd.Q_nil _ _ _ _ _ | exact Kd.S_nil _ _ _ _ _,by repeat (first | (with_reducible first | exact HB.out | apply qj | apply qz | apply qk) | exact HB.out)⟩
 ·rw [if_neg c2] at H
  have c2b0 : (a0.toList == ([] : List UInt8)) = false := beq_eq_false_iff_ne.mpr c2
  have c2b1 : (a0.toList != ([] : List UInt8)) = true := bne_iff_ne.mpr c2
  by_cases c3 : (a0.size : Int) > 2000
  ·rw [if_pos c3] at H
   have c3b0 : decide (2000 < (a0.size : Int)) = true := decide_eq_true c3
   have c3b1 : decide (2000 < a0.size) = true := decide_eq_true (by omega)
   clear c3
   simp only [Option.some.injEq,Prod.mk.injEq] at H
   obtain ⟨rfl,rfl⟩ := H
   go_enter Try.func44,Try.ntmps44
   go_wp2
   go_ret2
   exact ⟨_,by first | rfl | (simp [*,jx,jw] <;> rfl),by first | exact Kd.R_nil _ _ _ _ _ | exact Kd.N_nil _ _ _ _ _ | exact Kd.V_nil _ _ _ _ _ | exact Kd.Q_nil _ _ _ _ _ | exact Kd.S_nil _ _ _ _ _,by repeat (first | (with_reducible first | exact HB.out | apply qj | apply qz | apply qk) | exact HB.out)⟩
  ·rw [if_neg c3] at H
   have c3b0 : decide (2000 < (a0.size : Int)) = false := decide_eq_false c3
   have c3b1 : decide (2000 < a0.size) = false := decide_eq_false (by omega)
   clear c3
   have H' := qq.mk H
   clear H
   go_enter Try.func44,Try.ntmps44
   go_wp2
   go_loopg [4,5,6] k (fun kq v4 v5 v6 w' => ∃ (x4_1 : List (S122)) (x5_1 : ByteArray) (x6_1 : Bool),v5 = .string x5_1 ∧ v6 = .bool x6_1 ∧ qq (wx.l0 kq a0 x4_1 x5_1 x6_1 = some (r1,r2)) ∧ qq (kq ≤ k) ∧ qq (Kd.R k122 122 w' w.heap.size (fun _ => True) v4 x4_1) ∧ qq (Below w.heap.size w w'))
   case atStart => exact ⟨(([] : List (S122))),(a0),(true),(by first | rfl | (simp;done) | (simp [*];done) | (generalize ByteArray.toList _ = l_;cases l_ <;> first | rfl | (simp;done))),(by first | rfl | (simp;done) | (simp [*];done) | (generalize ByteArray.toList _ = l_;cases l_ <;> first | rfl | (simp;done))),H',⟨Nat.le_refl _⟩,⟨by first | exact Kd.R_nil _ _ _ _ _ | exact Kd.N_nil _ _ _ _ _ | exact Kd.V_nil _ _ _ _ _ | exact Kd.Q_nil _ _ _ _ _ | exact Kd.S_nil _ _ _ _ _⟩,⟨by repeat (first | (with_reducible first | exact HB.out | apply qj | apply qz | apply qk) | exact HB.out)⟩⟩
   case round =>
    clear H'
    try clear c2
    try clear c2b0
    try clear c2b1
    try clear p2
    try clear c3
    try clear c3b0
    try clear c3b1
    obtain ⟨x4_1,x5_1,x6_1,rfl,rfl,HA,HK1,HO_4,HB⟩ := hrel
    cases gk with
    | zero => exact absurd HA.out (by simp [wx.l0])
    | succ k1 =>
     have H := HA.out
     clear HA
     simp only [wx.l0] at H
     by_cases c4 : x6_1 = true
     ·subst c4
      have H1 : ((qkq.f x5_1 (⟨#[61]⟩ : ByteArray)).bind fun bt101 => (if bt101.2.2 = true then (wx.l1 k1 a0 x4_1 x5_1 false bt101.2.1 0 bt101.1 (⟨#[]⟩ : ByteArray)) else (some (([] : List (S122)),false)))) = some (r1,r2) := by rw [if_pos rfl] at H;exact H
      clear H
      have H := H1
      clear H1
      replace H := Option.bind_eq_some_iff.mp H
      obtain ⟨⟨t101,t102,t103⟩,A50,H⟩ := H
      replace H : (if t103 = true then (wx.l1 k1 a0 x4_1 x5_1 false t102 0 t101 (⟨#[]⟩ : ByteArray)) else (some (([] : List (S122)),false))) = some (r1,r2) := H
      have A5 := qq.mk A50
      clear A50
      by_cases c6 : t103 = true
      ·subst c6
       have H1 : (wx.l1 k1 a0 x4_1 x5_1 false t102 0 t101 (⟨#[]⟩ : ByteArray)) = some (r1,r2) := by rw [if_pos rfl] at H;exact H
       clear H
       have H := H1
       clear H1
       have H' := qq.mk H
       clear H
       go_wp2_with (first | ((with_reducible refine kz (f := 105) rfl ?_);refine goesL_ (some 21) rfl rfl Try.func105 (by kernel_rfl) rfl #[.string x5_1,.string (⟨#[61]⟩ : ByteArray)] rfl (by (try simp only [List.map_toArray,List.map_cons,List.map_nil]);first | done | rfl | (simp only [List.length_drop,List.length_take];rfl)) ?_;(with_reducible refine (qkq.calls x5_1 (⟨#[61]⟩ : ByteArray) t101 t102 true _ A5.out).mono ?_);rintro e w' ⟨rfl,⟨nd,rfl⟩⟩;refine ⟨_,rfl,?_⟩;(try (rw [drewN_self wr];generalize hq_ : World.drewN wr _ = wr;have n0_ : qq (Kd.R k122 122 wr w.heap.size (fun _ => True) u4 x4_1) := ⟨by rw [← hq_];exact (by (with_reducible repeat (first | apply Kd.jq | apply Kd.zx | apply Kd.jz));exact HO_4.out)⟩;have n1_ : qq (Below w.heap.size w wr) := ⟨by rw [← hq_];exact (by repeat (first | (with_reducible first | exact HB.out | apply qj | apply qz | apply qk) | exact HB.out))⟩;clear HO_4 HB hq_;have HO_4 := n0_;have HB := n1_;clear n0_ n1_))) | ((with_reducible refine gate_dst (N := 10) rfl ?_);refine box_event ?hg (N := 10) ?hd (cs := #[.string (⟨#[]⟩ : ByteArray),.string (⟨#[]⟩ : ByteArray)]) (t := 122) ?hr ?_;(case hd => rfl);(case hg => rfl);(case hr => first | (go_simp;done) | (go_simp;rfl));intro gb104 hg w7 hbox hb;have n0_ := qq.mk (Kd.R_below (Kd.R_elderB (by (with_reducible repeat (first | apply Kd.jq | apply Kd.zx | apply Kd.jz));exact HO_4.out) gb104 (Nat.le_of_eq hg.symm)) hb);have n1_ := qq.mk (zv (by repeat (first | (with_reducible first | exact HB.out | apply qj | apply qz | apply qk) | exact HB.out)) hb);have n2_ := qq.mk (hbox);have n3_ := qq.mk ((by rw [hg];exact (zw (by repeat (first | (with_reducible first | exact HB.out | apply qj | apply qz | apply qk) | exact HB.out))) : w.heap.size ≤ gb104));have n4_ := qq.mk ((by rw [hg];exact (zw (by repeat (first | (with_reducible first | exact HB.out | apply qj | apply qz | apply qk) | exact HB.out))) : w.heap.size ≤ gb104));clear HO_4;clear HB;have HO_4 := n0_;have HB := n1_;have BK104 := n2_;have GW104 := n3_;have GE104 := n4_;clear n0_ n1_ n2_ n3_ n4_;clear hb hbox hg;have hcz8_0 : w7.cell? ⟨gb104,0,none⟩ = some (.string (⟨#[]⟩ : ByteArray)) := (qw BK104.out 0).trans rfl;have hcz8_1 : w7.cell? ⟨gb104,1,none⟩ = some (.string (⟨#[]⟩ : ByteArray)) := (qw BK104.out 1).trans rfl;have hfz8_0 := qv BK104.out 0;have hfz8_1 := qv BK104.out 1))
       go_loopg [6,11] k1 (fun kq v6 v11 w' => ∃ (x6_2 : Bool) (x11_2 : Int) (x105001_2 : ByteArray),v6 = .bool x6_2 ∧ v11 = .int .i64 x11_2 ∧ qq (wx.l1 kq a0 x4_1 x5_1 x6_2 t102 x11_2 t101 x105001_2 = some (r1,r2)) ∧ qq (kq ≤ k1) ∧ qq (Kd.R k122 122 w' w.heap.size (fun k_ => k_ ≠ gb104) u4 x4_1) ∧ qq (w'.heap[gb104]? = some (.cells #[.string t101,.string x105001_2] 122 (0,0))) ∧ qq (Below w.heap.size w w'))
       case atStart => exact ⟨(false),(0),((⟨#[]⟩ : ByteArray)),(by first | rfl | (simp;done) | (simp [*];done) | (generalize ByteArray.toList _ = l_;cases l_ <;> first | rfl | (simp;done))),(by first | rfl | (simp;done) | (simp [*];done) | (generalize ByteArray.toList _ = l_;cases l_ <;> first | rfl | (simp;done))),H',⟨Nat.le_refl _⟩,⟨by (with_reducible repeat (first | apply Kd.jq | apply Kd.zx | apply Kd.jz));exact Kd.R_mono (Kd.R_far (p := ⟨gb104,1,none⟩) (Kd.R_far (p := ⟨gb104,0,none⟩) (Kd.R_mono HO_4.out (fun k_ hk => (⟨hk,hk.2⟩ : _ ∧ k_ ≠ gb104))) (fun _ hk => hk.2) (.string t101)) (fun _ hk => hk.2) (.string (⟨#[]⟩ : ByteArray))) (fun _ hk => hk.1.2)⟩,⟨by (with_reducible repeat (first | refine zz ?_ _ | refine zj ?_ | refine zq ?_ _));refine blk_put (cs := #[.string t101,.string (⟨#[]⟩ : ByteArray)]) ?_ 1 _ rfl;(with_reducible repeat (first | refine zz ?_ _ | refine zj ?_ | refine zq ?_ _));refine blk_put (cs := #[.string (⟨#[]⟩ : ByteArray),.string (⟨#[]⟩ : ByteArray)]) ?_ 0 _ rfl;(with_reducible repeat (first | refine zz ?_ _ | refine zj ?_ | refine zq ?_ _));exact BK104.out⟩,⟨by repeat (first | (with_reducible first | exact HB.out | apply qj | apply qz | apply qk | refine qx ?_ GE104.out) | exact HB.out)⟩⟩
       case round =>
        clear H'
        try clear c1
        try clear c2
        try clear c2b0
        try clear c2b1
        try clear p2
        try clear c3
        try clear c3b0
        try clear c3b1
        try clear c4
        try clear c6
        try clear hcz8_0
        try clear hcz8_1
        try clear hfz8_0
        try clear hfz8_1
        try clear p2
        obtain ⟨x6_2,x11_2,x105001_2,rfl,rfl,HA,HK2,HO_4,BK104,HB⟩ := hrel
        cases gk with
        | zero => exact absurd HA.out (by simp [wx.l1])
        | succ k2 =>
         have H := HA.out
         clear HA
         simp only [wx.l1] at H
         by_cases c9 : x11_2 < (t102.size : Int)
         ·rw [if_pos c9] at H
          have c9b0 : decide (x11_2 < (t102.size : Int)) = true := decide_eq_true c9
          clear c9
          by_cases c10 : 0 ≤ x11_2
          ·rw [if_pos c10] at H
           have c10b0 : decide (0 ≤ x11_2) = true := decide_eq_true c10
           clear c10
           by_cases c12 : (bt t102 x11_2) = 44
           ·rw [if_pos c12] at H
            have c12b0 : ((bt t102 x11_2) == 44) = true := beq_iff_eq.mpr c12
            have c12b1 : ((bt t102 x11_2) != 44) = false := bne_eq_false_iff_eq.mpr c12
            clear c12
            by_cases c13 : x4_1.length < 4398046511104
            ·rw [if_pos c13] at H
             have LMc13 := qq.mk c13
             clear c13
             obtain ⟨y108,hy108⟩ : ∃ y_ : List (S122),y_ = (x4_1 ++ [(⟨t101,x105001_2⟩ : S122)]) := ⟨_,rfl⟩
             replace H : (if 0 ≤ (wrap64 (x11_2 + 1)) then (if (wrap64 (x11_2 + 1)) ≤ (t102.size : Int) then (wx.l0 k2 a0 y108 (t102.extract ((wrap64 (x11_2 + 1)) : Int).toNat t102.size) true) else (none)) else (none)) = some (r1,r2) := by first | (rw [hy108];with_reducible exact H) | (have H2_ := (Option.bind_some _ _).symm.trans H;rw [hy108];with_reducible exact H2_) | (have H2_ := (Option.bind_some _ _).symm.trans H;with_reducible exact H2_) | with_reducible exact H | (rw [hy108];exact H) | exact H
             have Ny108 := qq.mk hy108
             clear hy108
             obtain ⟨ji14,hji14⟩ : ∃ j_ : Int,(wrap64 (x11_2 + 1)) = j_ := ⟨_,rfl⟩
             replace H : (if 0 ≤ (ji14) then (if (ji14) ≤ (t102.size : Int) then (wx.l0 k2 a0 y108 (t102.extract ((ji14) : Int).toNat t102.size) true) else (none)) else (none)) = some (r1,r2) := by first | (rw [hji14] at H;exact H) | (simp only [hji14] at H ⊢;exact H)
             have hji14w : (IntKind.i64.wrap (x11_2 + 1)) = ji14 := (i64_w _).trans hji14
             by_cases c15 : 0 ≤ (ji14)
             ·rw [if_pos c15] at H
              have c15b0 := eq_true c15
              have c15b1 : decide (0 ≤ (ji14)) = true := decide_eq_true c15
              clear c15
              by_cases c16 : (ji14) ≤ (t102.size : Int)
              ·rw [if_pos c16] at H
               have c16b0 := eq_true c16
               have c16b1 : decide ((ji14) ≤ (t102.size : Int)) = true := decide_eq_true c16
               clear c16
               have H' := qq.mk H
               clear H
               have p11 : 0 ≤ (x11_2 : Int) := of_decide_eq_true (by assumption)
               have q11 : x11_2 < (t102.size : Int) := of_decide_eq_true (by assumption)
               have hx11 := bt_at t102 x11_2
               replace p11 := eq_true p11
               replace q11 := eq_true q11
               have hcz17_0 : wr.cell? ⟨gb104,0,none⟩ = some (.string t101) := (qw BK104.out 0).trans rfl
               have hcz17_1 : wr.cell? ⟨gb104,1,none⟩ = some (.string x105001_2) := (qw BK104.out 1).trans rfl
               have hfz17_0 := qv BK104.out 0
               have hfz17_1 := qv BK104.out 1
               go_wp2_with (first | ((with_reducible refine gate_builtin (b := .append) (xs := #[.tmp 58,.tmp 60]) rfl ?_);at_builtin;refine Kd.R_append k122 (w0 := w) w.heap.size rfl (.tmp 58) (.tmp 60) 62 122 (.agg #[(.string ⟨#[]⟩),(.string ⟨#[]⟩)]) 32 rfl Try.underlying62 info122 rfl (by decide) (by omega) u4 x4_1 (⟨t101,x105001_2⟩ : S122) [.string t101,.string x105001_2] (fun k_ => k_ ≠ gb104) (fun _ => False) rfl rfl ?aP (fun _ hk => hk.elim) ?aF ?aO ?aB ?aS ?aL ?_;(case aP => exact k122_mkM _ _ _ (⟨t101,x105001_2⟩ : S122));(case aB => exact (by repeat (first | (with_reducible first | exact HB.out | apply qj | apply qz | apply qk | refine qx ?_ GE104.out) | exact HB.out)));(case aF => exact (fun k_ hk => Kd.freshB (g := gb104) (o := .cells #[.string t101,.string x105001_2] 122 (0,0)) (by (with_reducible repeat (first | refine zz ?_ _ | refine zj ?_ | refine zq ?_ _));exact BK104.out) k_ hk));(case aO => exact (by (with_reducible repeat (first | apply Kd.jq | apply Kd.zx | apply Kd.jz));exact HO_4.out));(case aS => exact (zw (by repeat (first | (with_reducible first | exact HB.out | apply qj | apply qz | apply qk | refine qx ?_ GE104.out) | exact HB.out))));(case aL => have := LMc13.out;omega);intro v109 w18 ho hb hg hat;rw [← Ny108.out] at ho;have n0_ := qq.mk (blk_grown (g := gb104) (o := .cells #[.string t101,.string x105001_2] 122 (0,0)) (by (with_reducible repeat (first | refine zz ?_ _ | refine zj ?_ | refine zq ?_ _));exact BK104.out) hg (Kd.R_away HO_4.out (fun _ hk => hk)));have n1_ := qq.mk (hb);have n2_ := qq.mk (ho);clear BK104;clear HB;clear HO_4;have BK104 := n0_;have HB := n1_;have HO110 := n2_;clear n0_ n1_ n2_;clear ho hb hg hat))
               go_roundg k2
               case measure => have := HK1.out;have := HK2.out;omega
               case rel => exact ⟨(y108),(t102.extract ((ji14) : Int).toNat t102.size),(true),(by first | rfl | (simp;done) | (simp only [← hji14] <;> (first | rfl | simp)) | (simp [*];done)),(by first | rfl | (simp;done) | (simp [*];done) | (generalize ByteArray.toList _ = l_;cases l_ <;> first | rfl | (simp;done))),H',⟨by have := HK1.out;have := HK2.out;omega⟩,⟨by (with_reducible repeat (first | apply Kd.jq | apply Kd.zx | apply Kd.jz));exact Kd.R_mono HO110.out (fun _ hk => trivial)⟩,⟨by repeat (first | (with_reducible first | exact HB.out | apply qj | apply qz | apply qk | refine qx ?_ GE104.out) | exact HB.out)⟩⟩
              ·rw [if_neg c16] at H
               exact absurd H (by simp)
             ·rw [if_neg c15] at H
              exact absurd H (by simp)
            ·rw [if_neg c13] at H
             exact absurd H (by simp)
           ·rw [if_neg c12] at H
            have c12b0 : ((bt t102 x11_2) == 44) = false := beq_eq_false_iff_ne.mpr c12
            have c12b1 : ((bt t102 x11_2) != 44) = true := bne_iff_ne.mpr c12
            by_cases c20 : (bt t102 x11_2) = 92
            ·rw [if_pos c20] at H
             have c20b0 : ((bt t102 x11_2) == 92) = true := beq_iff_eq.mpr c20
             have c20b1 : ((bt t102 x11_2) != 92) = false := bne_eq_false_iff_eq.mpr c20
             clear c20
             by_cases c21 : (wrap64 (x11_2 + 1)) = (t102.size : Int)
             ·rw [if_pos c21] at H
              have c21b0 : ((wrap64 (x11_2 + 1)) == (t102.size : Int)) = true := beq_iff_eq.mpr c21
              have c21b1 : ((wrap64 (x11_2 + 1)) != (t102.size : Int)) = false := bne_eq_false_iff_eq.mpr c21
              clear c21
              simp only [Option.some.injEq,Prod.mk.injEq] at H
              obtain ⟨rfl,rfl⟩ := H
              have p11 : 0 ≤ (x11_2 : Int) := of_decide_eq_true (by assumption)
              have q11 : x11_2 < (t102.size : Int) := of_decide_eq_true (by assumption)
              have hx11 := bt_at t102 x11_2
              replace p11 := eq_true p11
              replace q11 := eq_true q11
              have p19 : 0 ≤ (x11_2 : Int) := of_decide_eq_true (by assumption)
              have q19 : x11_2 < (t102.size : Int) := of_decide_eq_true (by assumption)
              have hx19 := bt_at t102 x11_2
              replace p19 := eq_true p19
              replace q19 := eq_true q19
              go_wp2
              go_ret2
              exact ⟨_,by first | rfl | (simp [*,jx,jw] <;> rfl),by first | exact Kd.R_nil _ _ _ _ _ | exact Kd.N_nil _ _ _ _ _ | exact Kd.V_nil _ _ _ _ _ | exact Kd.Q_nil _ _ _ _ _ | exact Kd.S_nil _ _ _ _ _,by repeat (first | (with_reducible first | exact HB.out | apply qj | apply qz | apply qk | refine qx ?_ GE104.out) | exact HB.out)⟩
             ·rw [if_neg c21] at H
              have c21b0 : ((wrap64 (x11_2 + 1)) == (t102.size : Int)) = false := beq_eq_false_iff_ne.mpr c21
              have c21b1 : ((wrap64 (x11_2 + 1)) != (t102.size : Int)) = true := bne_iff_ne.mpr c21
              obtain ⟨ji22,hji22⟩ : ∃ j_ : Int,(wrap64 (x11_2 + 1)) = j_ := ⟨_,rfl⟩
              replace H : (if 0 ≤ (ji22) then (if (ji22) ≤ (wrap64 ((ji22) + 1)) then (if (wrap64 ((ji22) + 1)) ≤ (t102.size : Int) then (if x105001_2.size + (t102.extract ((ji22) : Int).toNat ((wrap64 ((ji22) + 1)) : Int).toNat).size ≤ 9223372036854775807 then (wx.l1 k2 a0 x4_1 x5_1 x6_2 t102 (wrap64 ((ji22) + 1)) t101 (x105001_2 ++ (t102.extract ((ji22) : Int).toNat ((wrap64 ((ji22) + 1)) : Int).toNat))) else (none)) else (none)) else (none)) else (none)) = some (r1,r2) := by first | (rw [hji22] at H;exact H) | (simp only [hji22] at H ⊢;exact H)
              (try rw [hji22] at c21b0)
              (try rw [hji22] at c21b1)
              have hji22w : (IntKind.i64.wrap (x11_2 + 1)) = ji22 := (i64_w _).trans hji22
              by_cases c23 : 0 ≤ (ji22)
              ·rw [if_pos c23] at H
               have c23b0 := eq_true c23
               have c23b1 : decide (0 ≤ (ji22)) = true := decide_eq_true c23
               clear c23
               by_cases c24 : (ji22) ≤ (wrap64 ((ji22) + 1))
               ·rw [if_pos c24] at H
                have c24b0 := eq_true c24
                have c24b1 : decide ((ji22) ≤ (wrap64 ((ji22) + 1))) = true := decide_eq_true c24
                by_cases c25 : (wrap64 ((ji22) + 1)) ≤ (t102.size : Int)
                ·rw [if_pos c25] at H
                 have c25b0 := eq_true c25
                 have c25b1 : decide ((wrap64 ((ji22) + 1)) ≤ (t102.size : Int)) = true := decide_eq_true c25
                 by_cases c26 : x105001_2.size + (t102.extract ((ji22) : Int).toNat ((wrap64 ((ji22) + 1)) : Int).toNat).size ≤ 9223372036854775807
                 ·rw [if_pos c26] at H
                  have c26b0 := eq_true c26
                  have c26b1 : decide (x105001_2.size + (t102.extract ((ji22) : Int).toNat ((wrap64 ((ji22) + 1)) : Int).toNat).size ≤ 9223372036854775807) = true := decide_eq_true c26
                  try have c26b2 : (9223372036854775807 < x105001_2.size + (t102.extract ((ji22) : Int).toNat ((wrap64 ((ji22) + 1)) : Int).toNat).size) = False := eq_false (Nat.not_lt.2 c26)
                  have c26b4 : (9223372036854775807 < x105001_2.size + ((wrap64 ((ji22) + 1)).toNat - ((ji22)).toNat)) = False := eq_false (by have e_ := c26;rw [ByteArray.size_extract,Nat.min_eq_left (by have e2_ := of_eq_true c25b0;omega)] at e_;omega)
                  have H' := qq.mk H
                  clear H
                  have p11 : 0 ≤ (x11_2 : Int) := of_decide_eq_true (by assumption)
                  have q11 : x11_2 < (t102.size : Int) := of_decide_eq_true (by assumption)
                  have hx11 := bt_at t102 x11_2
                  replace p11 := eq_true p11
                  replace q11 := eq_true q11
                  have p19 : 0 ≤ (x11_2 : Int) := of_decide_eq_true (by assumption)
                  have q19 : x11_2 < (t102.size : Int) := of_decide_eq_true (by assumption)
                  have hx19 := bt_at t102 x11_2
                  replace p19 := eq_true p19
                  replace q19 := eq_true q19
                  try go_wp2
                  have n0_ := qq.mk (Kd.jz HO_4.out)
                  have n1_ := qq.mk (zj BK104.out)
                  have n2_ := qq.mk (qk HB.out)
                  clear HO_4
                  clear BK104
                  clear HB
                  have HO_4 := n0_
                  have BK104 := n1_
                  have HB := n2_
                  clear n0_ n1_ n2_
                  refine start_ (n := 10) (S := fun w' => w'.cell? ⟨gb104,0,none⟩ = some (.string t101) ∧ w'.cell? ⟨gb104,1,none⟩ = some (.string x105001_2)) (ds := [9]) #[false,false,false,false,false,false,false,false,false,false] (by kernel_rfl) rfl rfl ⟨(qw BK104.out 0).trans rfl,(qw BK104.out 1).trans rfl⟩ (fun hHeld => ?_);refine with_tabW wx.tab22 wx.bits22 (fun HT_ HW_ => ?_)
                  generalize wr.drew = w27 at HO_4 BK104 HB hHeld ⊢
                  refine pure_ (i := 0) (N := some 49) (v := ?_) (a' := ?_) #[true,false,false,false,false,false,false,false,false,false] rfl rfl (any_of HT_.out (by kernel_rfl)) (fun _ _ _ h => h) (Or.inl ⟨by rfl,?_⟩) ?_ ?_
                  rotate_left
                  ·intro w'
                   go_simp
                   with_reducible rfl
                  rotate_left
                  ·simp only [Act.put,List.setIfInBounds_toArray,List.set_cons_zero,List.set_cons_succ,i64_w,i32_w]
                   rfl
                  refine pure_ (i := 2) (N := some 51) (v := ?_) (a' := ?_) #[true,false,true,false,false,false,false,false,false,false] rfl rfl (any_of HT_.out (by kernel_rfl)) (fun _ _ _ h => h) (Or.inl ⟨by rfl,?_⟩) ?_ ?_
                  rotate_left
                  ·intro w'
                   go_simp
                   with_reducible rfl
                  rotate_left
                  ·simp only [Act.put,List.setIfInBounds_toArray,List.set_cons_zero,List.set_cons_succ,i64_w,i32_w]
                   rfl
                  refine pure_ (i := 3) (N := some 52) (v := ?_) (a' := ?_) #[true,false,true,true,false,false,false,false,false,false] rfl rfl (any_of HT_.out (by kernel_rfl)) (fun _ _ _ h => h) (Or.inl ⟨by rfl,?_⟩) ?_ ?_
                  rotate_left
                  ·intro w'
                   go_simp
                   with_reducible rfl
                  rotate_left
                  ·simp only [Act.put,List.setIfInBounds_toArray,List.set_cons_zero,List.set_cons_succ,i64_w,i32_w]
                   rfl
                  refine pure_ (i := 4) (N := some 53) (v := ?_) (a' := ?_) #[true,false,true,true,true,false,false,false,false,false] rfl rfl (any_of HT_.out (by kernel_rfl)) (fun _ _ _ h => h) (Or.inl ⟨by rfl,?_⟩) ?_ ?_
                  rotate_left
                  ·intro w'
                   go_simp
                   with_reducible rfl
                  rotate_left
                  ·simp only [Act.put,List.setIfInBounds_toArray,List.set_cons_zero,List.set_cons_succ,i64_w,i32_w]
                   rfl
                  refine pure_ (i := 5) (N := some 54) (v := ?_) (a' := ?_) #[true,false,true,true,true,true,false,false,false,false] rfl rfl (any_of HT_.out (by kernel_rfl)) (fun _ _ _ h => h) (Or.inl ⟨by rfl,?_⟩) ?_ ?_
                  rotate_left
                  ·intro w'
                   go_simp
                   with_reducible rfl
                  rotate_left
                  ·simp only [Act.put,List.setIfInBounds_toArray,List.set_cons_zero,List.set_cons_succ,i64_w,i32_w]
                   rfl
                  refine pure_ (i := 6) (N := some 55) (v := ?_) (a' := ?_) #[true,false,true,true,true,true,true,false,false,false] rfl rfl (any_of HT_.out (by kernel_rfl)) (fun _ _ _ h => h) (Or.inl ⟨by rfl,?_⟩) ?_ ?_
                  rotate_left
                  ·intro w'
                   go_simp
                   with_reducible rfl
                  rotate_left
                  ·simp only [Act.put,List.setIfInBounds_toArray,List.set_cons_zero,List.set_cons_succ,i64_w,i32_w]
                   rfl
                  refine take_ (i := 1) (N := some 50) (v := ?_) (a' := ?_) #[true,true,true,true,true,true,true,false,false,false] rfl rfl (take_ofW HT_.out HW_.out (by kernel_rfl)) (fun _ _ _ h => h) (Or.inl ⟨by rfl,?_⟩) hHeld ?_ ?_
                  rotate_left
                  ·rintro w' ⟨s0,s1⟩
                   go_simp
                   with_reducible rfl
                  rotate_left
                  ·simp only [Act.put,List.setIfInBounds_toArray,List.set_cons_zero,List.set_cons_succ,i64_w,i32_w]
                   rfl
                  refine pure_ (i := 7) (N := some 56) (v := ?_) (a' := ?_) #[true,true,true,true,true,true,true,true,false,false] rfl rfl (any_of HT_.out (by kernel_rfl)) (fun _ _ _ h => h) (Or.inl ⟨by rfl,?_⟩) ?_ ?_
                  rotate_left
                  ·intro w'
                   go_simp
                   with_reducible rfl
                  rotate_left
                  ·simp only [Act.put,List.setIfInBounds_toArray,List.set_cons_zero,List.set_cons_succ,i64_w,i32_w]
                   rfl
                  refine pure_ (i := 8) (N := some 57) (v := ?_) (a' := ?_) #[true,true,true,true,true,true,true,true,true,false] rfl rfl (any_of HT_.out (by kernel_rfl)) (fun _ _ _ h => h) (Or.inl ⟨by rfl,?_⟩) ?_ ?_
                  rotate_left
                  ·intro w'
                   go_simp
                   with_reducible rfl
                  rotate_left
                  ·simp only [Act.put,List.setIfInBounds_toArray,List.set_cons_zero,List.set_cons_succ,i64_w,i32_w]
                   rfl
                  refine last_ (i := 9) (N := none) #[true,true,true,true,true,true,true,true,true,true] rfl rfl (one_of HT_.out (by kernel_rfl)) (by decide) (fun K hK => ?_)
                  have hs28 : w27.cell? ⟨gb104,1,none⟩ = some (.string x105001_2) := (qw BK104.out 1).trans rfl
                  have hfs28 := qv BK104.out 1
                  refine skip_ (w1 := ?_) (by rfl) rfl ?_ ?_
                  rotate_left
                  ·go_simp
                   rfl
                  refine hK.out _ _ ?_
                  clear hK K
                  refine done_ (done_of HT_.out (by kernel_rfl)) ?_
                  try go_wp2
                  go_roundg k2
                  case measure => have := HK1.out;have := HK2.out;omega
                  case rel => exact ⟨(x6_2),(wrap64 ((ji22) + 1)),(x105001_2 ++ (t102.extract ((ji22) : Int).toNat ((wrap64 ((ji22) + 1)) : Int).toNat)),(by first | rfl | (simp;done) | (simp [*];done) | (generalize ByteArray.toList _ = l_;cases l_ <;> first | rfl | (simp;done))),(by first | rfl | (simp;done) | (simp only [← hji22] <;> (first | rfl | simp)) | (simp [*];done)),H',⟨by have := HK1.out;have := HK2.out;omega⟩,⟨by (with_reducible repeat (first | apply Kd.jq | apply Kd.zx | apply Kd.jz));exact Kd.R_mono (Kd.R_far (p := ⟨gb104,1,none⟩) (Kd.R_mono HO_4.out (fun k_ hk => (⟨hk,hk⟩ : _ ∧ k_ ≠ gb104))) (fun _ hk => hk.2) (.string (x105001_2 ++ (t102.extract ((ji22) : Int).toNat ((wrap64 ((ji22) + 1)) : Int).toNat)))) (fun _ hk => hk.1)⟩,⟨by (with_reducible repeat (first | refine zz ?_ _ | refine zj ?_ | refine zq ?_ _));refine blk_put (cs := #[.string t101,.string x105001_2]) ?_ 1 _ rfl;(with_reducible repeat (first | refine zz ?_ _ | refine zj ?_ | refine zq ?_ _));exact BK104.out⟩,⟨by repeat (first | (with_reducible first | exact HB.out | apply qj | apply qz | apply qk | refine qx ?_ GE104.out) | exact HB.out)⟩⟩
                 ·rw [if_neg c26] at H
                  exact absurd H (by simp)
                ·rw [if_neg c25] at H
                 exact absurd H (by simp)
               ·rw [if_neg c24] at H
                exact absurd H (by simp)
              ·rw [if_neg c23] at H
               exact absurd H (by simp)
            ·rw [if_neg c20] at H
             have c20b0 : ((bt t102 x11_2) == 92) = false := beq_eq_false_iff_ne.mpr c20
             have c20b1 : ((bt t102 x11_2) != 92) = true := bne_iff_ne.mpr c20
             have c29b0 := eq_true (of_decide_eq_true (by assumption) : 0 ≤ x11_2)
             by_cases c30 : x11_2 ≤ (wrap64 (x11_2 + 1))
             ·rw [if_pos c30] at H
              have c30b0 := eq_true c30
              have c30b1 : decide (x11_2 ≤ (wrap64 (x11_2 + 1))) = true := decide_eq_true c30
              by_cases c31 : (wrap64 (x11_2 + 1)) ≤ (t102.size : Int)
              ·rw [if_pos c31] at H
               have c31b0 := eq_true c31
               have c31b1 : decide ((wrap64 (x11_2 + 1)) ≤ (t102.size : Int)) = true := decide_eq_true c31
               by_cases c32 : x105001_2.size + (t102.extract (x11_2 : Int).toNat ((wrap64 (x11_2 + 1)) : Int).toNat).size ≤ 9223372036854775807
               ·rw [if_pos c32] at H
                have c32b0 := eq_true c32
                have c32b1 : decide (x105001_2.size + (t102.extract (x11_2 : Int).toNat ((wrap64 (x11_2 + 1)) : Int).toNat).size ≤ 9223372036854775807) = true := decide_eq_true c32
                try have c32b2 : (9223372036854775807 < x105001_2.size + (t102.extract (x11_2 : Int).toNat ((wrap64 (x11_2 + 1)) : Int).toNat).size) = False := eq_false (Nat.not_lt.2 c32)
                have c32b4 : (9223372036854775807 < x105001_2.size + ((wrap64 (x11_2 + 1)).toNat - (x11_2).toNat)) = False := eq_false (by have e_ := c32;rw [ByteArray.size_extract,Nat.min_eq_left (by have e2_ := of_eq_true c31b0;omega)] at e_;omega)
                have H' := qq.mk H
                clear H
                have p11 : 0 ≤ (x11_2 : Int) := of_decide_eq_true (by assumption)
                have q11 : x11_2 < (t102.size : Int) := of_decide_eq_true (by assumption)
                have hx11 := bt_at t102 x11_2
                replace p11 := eq_true p11
                replace q11 := eq_true q11
                have p19 : 0 ≤ (x11_2 : Int) := of_decide_eq_true (by assumption)
                have q19 : x11_2 < (t102.size : Int) := of_decide_eq_true (by assumption)
                have hx19 := bt_at t102 x11_2
                replace p19 := eq_true p19
                replace q19 := eq_true q19
                try go_wp2
                have n0_ := qq.mk (Kd.jz HO_4.out)
                have n1_ := qq.mk (zj BK104.out)
                have n2_ := qq.mk (qk HB.out)
                clear HO_4
                clear BK104
                clear HB
                have HO_4 := n0_
                have BK104 := n1_
                have HB := n2_
                clear n0_ n1_ n2_
                refine start_ (n := 10) (S := fun w' => w'.cell? ⟨gb104,0,none⟩ = some (.string t101) ∧ w'.cell? ⟨gb104,1,none⟩ = some (.string x105001_2)) (ds := [9]) #[false,false,false,false,false,false,false,false,false,false] (by kernel_rfl) rfl rfl ⟨(qw BK104.out 0).trans rfl,(qw BK104.out 1).trans rfl⟩ (fun hHeld => ?_);refine with_tabW wx.tab22 wx.bits22 (fun HT_ HW_ => ?_)
                generalize wr.drew = w33 at HO_4 BK104 HB hHeld ⊢
                refine pure_ (i := 0) (N := some 49) (v := ?_) (a' := ?_) #[true,false,false,false,false,false,false,false,false,false] rfl rfl (any_of HT_.out (by kernel_rfl)) (fun _ _ _ h => h) (Or.inl ⟨by rfl,?_⟩) ?_ ?_
                rotate_left
                ·intro w'
                 go_simp
                 with_reducible rfl
                rotate_left
                ·simp only [Act.put,List.setIfInBounds_toArray,List.set_cons_zero,List.set_cons_succ,i64_w,i32_w]
                 rfl
                refine pure_ (i := 2) (N := some 51) (v := ?_) (a' := ?_) #[true,false,true,false,false,false,false,false,false,false] rfl rfl (any_of HT_.out (by kernel_rfl)) (fun _ _ _ h => h) (Or.inl ⟨by rfl,?_⟩) ?_ ?_
                rotate_left
                ·intro w'
                 go_simp
                 with_reducible rfl
                rotate_left
                ·simp only [Act.put,List.setIfInBounds_toArray,List.set_cons_zero,List.set_cons_succ,i64_w,i32_w]
                 rfl
                refine pure_ (i := 3) (N := some 52) (v := ?_) (a' := ?_) #[true,false,true,true,false,false,false,false,false,false] rfl rfl (any_of HT_.out (by kernel_rfl)) (fun _ _ _ h => h) (Or.inl ⟨by rfl,?_⟩) ?_ ?_
                rotate_left
                ·intro w'
                 go_simp
                 with_reducible rfl
                rotate_left
                ·simp only [Act.put,List.setIfInBounds_toArray,List.set_cons_zero,List.set_cons_succ,i64_w,i32_w]
                 rfl
                refine pure_ (i := 4) (N := some 53) (v := ?_) (a' := ?_) #[true,false,true,true,true,false,false,false,false,false] rfl rfl (any_of HT_.out (by kernel_rfl)) (fun _ _ _ h => h) (Or.inl ⟨by rfl,?_⟩) ?_ ?_
                rotate_left
                ·intro w'
                 go_simp
                 with_reducible rfl
                rotate_left
                ·simp only [Act.put,List.setIfInBounds_toArray,List.set_cons_zero,List.set_cons_succ,i64_w,i32_w]
                 rfl
                refine pure_ (i := 5) (N := some 54) (v := ?_) (a' := ?_) #[true,false,true,true,true,true,false,false,false,false] rfl rfl (any_of HT_.out (by kernel_rfl)) (fun _ _ _ h => h) (Or.inl ⟨by rfl,?_⟩) ?_ ?_
                rotate_left
                ·intro w'
                 go_simp
                 with_reducible rfl
                rotate_left
                ·simp only [Act.put,List.setIfInBounds_toArray,List.set_cons_zero,List.set_cons_succ,i64_w,i32_w]
                 rfl
                refine pure_ (i := 6) (N := some 55) (v := ?_) (a' := ?_) #[true,false,true,true,true,true,true,false,false,false] rfl rfl (any_of HT_.out (by kernel_rfl)) (fun _ _ _ h => h) (Or.inl ⟨by rfl,?_⟩) ?_ ?_
                rotate_left
                ·intro w'
                 go_simp
                 with_reducible rfl
                rotate_left
                ·simp only [Act.put,List.setIfInBounds_toArray,List.set_cons_zero,List.set_cons_succ,i64_w,i32_w]
                 rfl
                refine take_ (i := 1) (N := some 50) (v := ?_) (a' := ?_) #[true,true,true,true,true,true,true,false,false,false] rfl rfl (take_ofW HT_.out HW_.out (by kernel_rfl)) (fun _ _ _ h => h) (Or.inl ⟨by rfl,?_⟩) hHeld ?_ ?_
                rotate_left
                ·rintro w' ⟨s0,s1⟩
                 go_simp
                 with_reducible rfl
                rotate_left
                ·simp only [Act.put,List.setIfInBounds_toArray,List.set_cons_zero,List.set_cons_succ,i64_w,i32_w]
                 rfl
                refine pure_ (i := 7) (N := some 56) (v := ?_) (a' := ?_) #[true,true,true,true,true,true,true,true,false,false] rfl rfl (any_of HT_.out (by kernel_rfl)) (fun _ _ _ h => h) (Or.inl ⟨by rfl,?_⟩) ?_ ?_
                rotate_left
                ·intro w'
                 go_simp
                 with_reducible rfl
                rotate_left
                ·simp only [Act.put,List.setIfInBounds_toArray,List.set_cons_zero,List.set_cons_succ,i64_w,i32_w]
                 rfl
                refine pure_ (i := 8) (N := some 57) (v := ?_) (a' := ?_) #[true,true,true,true,true,true,true,true,true,false] rfl rfl (any_of HT_.out (by kernel_rfl)) (fun _ _ _ h => h) (Or.inl ⟨by rfl,?_⟩) ?_ ?_
                rotate_left
                ·intro w'
                 go_simp
                 with_reducible rfl
                rotate_left
                ·simp only [Act.put,List.setIfInBounds_toArray,List.set_cons_zero,List.set_cons_succ,i64_w,i32_w]
                 rfl
                refine last_ (i := 9) (N := none) #[true,true,true,true,true,true,true,true,true,true] rfl rfl (one_of HT_.out (by kernel_rfl)) (by decide) (fun K hK => ?_)
                have hs34 : w33.cell? ⟨gb104,1,none⟩ = some (.string x105001_2) := (qw BK104.out 1).trans rfl
                have hfs34 := qv BK104.out 1
                refine skip_ (w1 := ?_) (by rfl) rfl ?_ ?_
                rotate_left
                ·go_simp
                 rfl
                refine hK.out _ _ ?_
                clear hK K
                refine done_ (done_of HT_.out (by kernel_rfl)) ?_
                try go_wp2
                go_roundg k2
                case measure => have := HK1.out;have := HK2.out;omega
                case rel => exact ⟨(x6_2),(wrap64 (x11_2 + 1)),(x105001_2 ++ (t102.extract (x11_2 : Int).toNat ((wrap64 (x11_2 + 1)) : Int).toNat)),(by first | rfl | (simp;done) | (simp [*];done) | (generalize ByteArray.toList _ = l_;cases l_ <;> first | rfl | (simp;done))),(by first | rfl | (simp;done) | (simp [*];done) | (generalize ByteArray.toList _ = l_;cases l_ <;> first | rfl | (simp;done))),H',⟨by have := HK1.out;have := HK2.out;omega⟩,⟨by (with_reducible repeat (first | apply Kd.jq | apply Kd.zx | apply Kd.jz));exact Kd.R_mono (Kd.R_far (p := ⟨gb104,1,none⟩) (Kd.R_mono HO_4.out (fun k_ hk => (⟨hk,hk⟩ : _ ∧ k_ ≠ gb104))) (fun _ hk => hk.2) (.string (x105001_2 ++ (t102.extract (x11_2 : Int).toNat ((wrap64 (x11_2 + 1)) : Int).toNat)))) (fun _ hk => hk.1)⟩,⟨by (with_reducible repeat (first | refine zz ?_ _ | refine zj ?_ | refine zq ?_ _));refine blk_put (cs := #[.string t101,.string x105001_2]) ?_ 1 _ rfl;(with_reducible repeat (first | refine zz ?_ _ | refine zj ?_ | refine zq ?_ _));exact BK104.out⟩,⟨by repeat (first | (with_reducible first | exact HB.out | apply qj | apply qz | apply qk | refine qx ?_ GE104.out) | exact HB.out)⟩⟩
               ·rw [if_neg c32] at H
                exact absurd H (by simp)
              ·rw [if_neg c31] at H
               exact absurd H (by simp)
             ·rw [if_neg c30] at H
              exact absurd H (by simp)
          ·rw [if_neg c10] at H
           exact absurd H (by simp)
         ·rw [if_neg c9] at H
          have c9b0 : decide (x11_2 < (t102.size : Int)) = false := decide_eq_false c9
          clear c9
          by_cases c35 : x4_1.length < 4398046511104
          ·rw [if_pos c35] at H
           have LMc35 := qq.mk c35
           clear c35
           obtain ⟨y105,hy105⟩ : ∃ y_ : List (S122),y_ = (x4_1 ++ [(⟨t101,x105001_2⟩ : S122)]) := ⟨_,rfl⟩
           replace H : (if x6_2 = true then (if 0 ≤ (wrap64 (x11_2 + 1)) then (if (wrap64 (x11_2 + 1)) ≤ (t102.size : Int) then (wx.l0 k2 a0 y105 (t102.extract ((wrap64 (x11_2 + 1)) : Int).toNat t102.size) x6_2) else (none)) else (none)) else (wx.l0 k2 a0 y105 x5_1 x6_2)) = some (r1,r2) := by first | (rw [hy105];with_reducible exact H) | (have H2_ := (Option.bind_some _ _).symm.trans H;rw [hy105];with_reducible exact H2_) | (have H2_ := (Option.bind_some _ _).symm.trans H;with_reducible exact H2_) | with_reducible exact H | (rw [hy105];exact H) | exact H
           have Ny105 := qq.mk hy105
           clear hy105
           by_cases c36 : x6_2 = true
           ·subst c36
            have H1 : (if 0 ≤ (wrap64 (x11_2 + 1)) then (if (wrap64 (x11_2 + 1)) ≤ (t102.size : Int) then (wx.l0 k2 a0 y105 (t102.extract ((wrap64 (x11_2 + 1)) : Int).toNat t102.size) true) else (none)) else (none)) = some (r1,r2) := by rw [if_pos rfl] at H;exact H
            clear H
            have H := H1
            clear H1
            obtain ⟨ji37,hji37⟩ : ∃ j_ : Int,(wrap64 (x11_2 + 1)) = j_ := ⟨_,rfl⟩
            replace H : (if 0 ≤ (ji37) then (if (ji37) ≤ (t102.size : Int) then (wx.l0 k2 a0 y105 (t102.extract ((ji37) : Int).toNat t102.size) true) else (none)) else (none)) = some (r1,r2) := by first | (rw [hji37] at H;exact H) | (simp only [hji37] at H ⊢;exact H)
            have hji37w : (IntKind.i64.wrap (x11_2 + 1)) = ji37 := (i64_w _).trans hji37
            by_cases c38 : 0 ≤ (ji37)
            ·rw [if_pos c38] at H
             have c38b0 := eq_true c38
             have c38b1 : decide (0 ≤ (ji37)) = true := decide_eq_true c38
             clear c38
             by_cases c39 : (ji37) ≤ (t102.size : Int)
             ·rw [if_pos c39] at H
              have c39b0 := eq_true c39
              have c39b1 : decide ((ji37) ≤ (t102.size : Int)) = true := decide_eq_true c39
              clear c39
              have H' := qq.mk H
              clear H
              have hcz40_0 : wr.cell? ⟨gb104,0,none⟩ = some (.string t101) := (qw BK104.out 0).trans rfl
              have hcz40_1 : wr.cell? ⟨gb104,1,none⟩ = some (.string x105001_2) := (qw BK104.out 1).trans rfl
              have hfz40_0 := qv BK104.out 0
              have hfz40_1 := qv BK104.out 1
              go_wp2_with (first | ((with_reducible refine gate_builtin (b := .append) (xs := #[.tmp 58,.tmp 60]) rfl ?_);at_builtin;refine Kd.R_append k122 (w0 := w) w.heap.size rfl (.tmp 58) (.tmp 60) 62 122 (.agg #[(.string ⟨#[]⟩),(.string ⟨#[]⟩)]) 32 rfl Try.underlying62 info122 rfl (by decide) (by omega) u4 x4_1 (⟨t101,x105001_2⟩ : S122) [.string t101,.string x105001_2] (fun k_ => k_ ≠ gb104) (fun _ => False) rfl rfl ?aP (fun _ hk => hk.elim) ?aF ?aO ?aB ?aS ?aL ?_;(case aP => exact k122_mkM _ _ _ (⟨t101,x105001_2⟩ : S122));(case aB => exact (by repeat (first | (with_reducible first | exact HB.out | apply qj | apply qz | apply qk | refine qx ?_ GE104.out) | exact HB.out)));(case aF => exact (fun k_ hk => Kd.freshB (g := gb104) (o := .cells #[.string t101,.string x105001_2] 122 (0,0)) (by (with_reducible repeat (first | refine zz ?_ _ | refine zj ?_ | refine zq ?_ _));exact BK104.out) k_ hk));(case aO => exact (by (with_reducible repeat (first | apply Kd.jq | apply Kd.zx | apply Kd.jz));exact HO_4.out));(case aS => exact (zw (by repeat (first | (with_reducible first | exact HB.out | apply qj | apply qz | apply qk | refine qx ?_ GE104.out) | exact HB.out))));(case aL => have := LMc35.out;omega);intro v106 w41 ho hb hg hat;rw [← Ny105.out] at ho;have n0_ := qq.mk (blk_grown (g := gb104) (o := .cells #[.string t101,.string x105001_2] 122 (0,0)) (by (with_reducible repeat (first | refine zz ?_ _ | refine zj ?_ | refine zq ?_ _));exact BK104.out) hg (Kd.R_away HO_4.out (fun _ hk => hk)));have n1_ := qq.mk (hb);have n2_ := qq.mk (ho);clear BK104;clear HB;clear HO_4;have BK104 := n0_;have HB := n1_;have HO107 := n2_;clear n0_ n1_ n2_;clear ho hb hg hat))
              go_roundg k2
              case measure => have := HK1.out;have := HK2.out;omega
              case rel => exact ⟨(y105),(t102.extract ((ji37) : Int).toNat t102.size),(true),(by first | rfl | (simp;done) | (simp only [← hji37] <;> (first | rfl | simp)) | (simp [*];done)),(by first | rfl | (simp;done) | (simp [*];done) | (generalize ByteArray.toList _ = l_;cases l_ <;> first | rfl | (simp;done))),H',⟨by have := HK1.out;have := HK2.out;omega⟩,⟨by (with_reducible repeat (first | apply Kd.jq | apply Kd.zx | apply Kd.jz));exact Kd.R_mono HO107.out (fun _ hk => trivial)⟩,⟨by repeat (first | (with_reducible first | exact HB.out | apply qj | apply qz | apply qk | refine qx ?_ GE104.out) | exact HB.out)⟩⟩
             ·rw [if_neg c39] at H
              exact absurd H (by simp)
            ·rw [if_neg c38] at H
             exact absurd H (by simp)
           ·replace c36 := Bool.eq_false_iff.mpr c36
            subst c36
            have H1 : (wx.l0 k2 a0 y105 x5_1 false) = some (r1,r2) := by rw [if_neg (show ¬ (false = true) by decide)] at H;exact H
            clear H
            have H := H1
            clear H1
            have H' := qq.mk H
            clear H
            have hcz42_0 : wr.cell? ⟨gb104,0,none⟩ = some (.string t101) := (qw BK104.out 0).trans rfl
            have hcz42_1 : wr.cell? ⟨gb104,1,none⟩ = some (.string x105001_2) := (qw BK104.out 1).trans rfl
            have hfz42_0 := qv BK104.out 0
            have hfz42_1 := qv BK104.out 1
            go_wp2_with (first | ((with_reducible refine gate_builtin (b := .append) (xs := #[.tmp 58,.tmp 60]) rfl ?_);at_builtin;refine Kd.R_append k122 (w0 := w) w.heap.size rfl (.tmp 58) (.tmp 60) 62 122 (.agg #[(.string ⟨#[]⟩),(.string ⟨#[]⟩)]) 32 rfl Try.underlying62 info122 rfl (by decide) (by omega) u4 x4_1 (⟨t101,x105001_2⟩ : S122) [.string t101,.string x105001_2] (fun k_ => k_ ≠ gb104) (fun _ => False) rfl rfl ?aP (fun _ hk => hk.elim) ?aF ?aO ?aB ?aS ?aL ?_;(case aP => exact k122_mkM _ _ _ (⟨t101,x105001_2⟩ : S122));(case aB => exact (by repeat (first | (with_reducible first | exact HB.out | apply qj | apply qz | apply qk | refine qx ?_ GE104.out) | exact HB.out)));(case aF => exact (fun k_ hk => Kd.freshB (g := gb104) (o := .cells #[.string t101,.string x105001_2] 122 (0,0)) (by (with_reducible repeat (first | refine zz ?_ _ | refine zj ?_ | refine zq ?_ _));exact BK104.out) k_ hk));(case aO => exact (by (with_reducible repeat (first | apply Kd.jq | apply Kd.zx | apply Kd.jz));exact HO_4.out));(case aS => exact (zw (by repeat (first | (with_reducible first | exact HB.out | apply qj | apply qz | apply qk | refine qx ?_ GE104.out) | exact HB.out))));(case aL => have := LMc35.out;omega);intro v106 w43 ho hb hg hat;rw [← Ny105.out] at ho;have n0_ := qq.mk (blk_grown (g := gb104) (o := .cells #[.string t101,.string x105001_2] 122 (0,0)) (by (with_reducible repeat (first | refine zz ?_ _ | refine zj ?_ | refine zq ?_ _));exact BK104.out) hg (Kd.R_away HO_4.out (fun _ hk => hk)));have n1_ := qq.mk (hb);have n2_ := qq.mk (ho);clear BK104;clear HB;clear HO_4;have BK104 := n0_;have HB := n1_;have HO107 := n2_;clear n0_ n1_ n2_;clear ho hb hg hat))
            go_roundg k2
            case measure => have := HK1.out;have := HK2.out;omega
            case rel => exact ⟨(y105),(x5_1),(false),(by first | rfl | (simp;done) | (simp [*];done) | (generalize ByteArray.toList _ = l_;cases l_ <;> first | rfl | (simp;done))),(by first | rfl | (simp;done) | (simp [*];done) | (generalize ByteArray.toList _ = l_;cases l_ <;> first | rfl | (simp;done))),H',⟨by have := HK1.out;have := HK2.out;omega⟩,⟨by (with_reducible repeat (first | apply Kd.jq | apply Kd.zx | apply Kd.jz));exact Kd.R_mono HO107.out (fun _ hk => trivial)⟩,⟨by repeat (first | (with_reducible first | exact HB.out | apply qj | apply qz | apply qk | refine qx ?_ GE104.out) | exact HB.out)⟩⟩
          ·rw [if_neg c35] at H
           exact absurd H (by simp)
      ·replace c6 := Bool.eq_false_iff.mpr c6
       subst c6
       have H1 : (some (([] : List (S122)),false)) = some (r1,r2) := by rw [if_neg (show ¬ (false = true) by decide)] at H;exact H
       clear H
       have H := H1
       clear H1
       simp only [Option.some.injEq,Prod.mk.injEq] at H
       obtain ⟨rfl,rfl⟩ := H
       go_wp2_with (first | ((with_reducible refine kz (f := 105) rfl ?_);refine goesL_ (some 21) rfl rfl Try.func105 (by kernel_rfl) rfl #[.string x5_1,.string (⟨#[61]⟩ : ByteArray)] rfl (by (try simp only [List.map_toArray,List.map_cons,List.map_nil]);first | done | rfl | (simp only [List.length_drop,List.length_take];rfl)) ?_;(with_reducible refine (qkq.calls x5_1 (⟨#[61]⟩ : ByteArray) t101 t102 false _ A5.out).mono ?_);rintro e w' ⟨rfl,⟨nd,rfl⟩⟩;refine ⟨_,rfl,?_⟩))
       go_ret2
       exact ⟨_,by first | rfl | (simp [*,jx,jw] <;> rfl),by first | exact Kd.R_nil _ _ _ _ _ | exact Kd.N_nil _ _ _ _ _ | exact Kd.V_nil _ _ _ _ _ | exact Kd.Q_nil _ _ _ _ _ | exact Kd.S_nil _ _ _ _ _,by repeat (first | (with_reducible first | exact HB.out | apply qj | apply qz | apply qk) | exact HB.out)⟩
     ·replace c4 := Bool.eq_false_iff.mpr c4
      subst c4
      have H1 : ((wq.f k1 x4_1).bind fun t111 => (if t111 = true then ((wv.f k1 x4_1).bind fun t112 => (if t112.toList = a0.toList then (some (x4_1,true)) else (some (([] : List (S122)),false)))) else (some (([] : List (S122)),false)))) = some (r1,r2) := by rw [if_neg (show ¬ (false = true) by decide)] at H;exact H
      clear H
      have H := H1
      clear H1
      replace H := Option.bind_eq_some_iff.mp H
      obtain ⟨t111,A440,H⟩ := H
      replace H : (if t111 = true then ((wv.f k1 x4_1).bind fun t112 => (if t112.toList = a0.toList then (some (x4_1,true)) else (some (([] : List (S122)),false)))) else (some (([] : List (S122)),false))) = some (r1,r2) := H
      have A44 := qq.mk A440
      clear A440
      by_cases c45 : t111 = true
      ·subst c45
       have H1 : ((wv.f k1 x4_1).bind fun t112 => (if t112.toList = a0.toList then (some (x4_1,true)) else (some (([] : List (S122)),false)))) = some (r1,r2) := by rw [if_pos rfl] at H;exact H
       clear H
       have H := H1
       clear H1
       replace H := Option.bind_eq_some_iff.mp H
       obtain ⟨t112,A460,H⟩ := H
       replace H : (if t112.toList = a0.toList then (some (x4_1,true)) else (some (([] : List (S122)),false))) = some (r1,r2) := H
       have A46 := qq.mk A460
       clear A460
       by_cases c47 : t112.toList = a0.toList
       ·rw [if_pos c47] at H
        have c47b0 : (t112.toList == a0.toList) = true := beq_iff_eq.mpr c47
        have c47b1 : (t112.toList != a0.toList) = false := bne_eq_false_iff_eq.mpr c47
        clear c47
        simp only [Option.some.injEq,Prod.mk.injEq] at H
        obtain ⟨rfl,rfl⟩ := H
        obtain ⟨Ao48,co48,eo48⟩ := Kd.R_slice HO_4.out
        subst eo48
        go_wp2_with (first | ((with_reducible refine kz (f := 101) rfl ?_);refine goesL_ (some 68) rfl rfl Try.func101 (by kernel_rfl) rfl #[.slice Ao48 x4_1.length co48] rfl (by (try simp only [List.map_toArray,List.map_cons,List.map_nil]);first | done | rfl | (simp only [List.length_drop,List.length_take];rfl)) ?_;(with_reducible refine (wq.calls k1 _ _ x4_1 true _ ?side1 ?side2 A44.out).mono ?_);(case side1 => repeat (first | exact (Kd.R_reads' HO_4.out).2.2 | (with_reducible refine Kd.C_alloc ?_ _) | (with_reducible refine Kd.C_drewN ?_ _) | (with_reducible refine Kd.C_drew ?_)));(case side2 => exact (Kd.R_reads' HO_4.out).2.1);rintro e w49 ⟨rfl,hb⟩;refine ⟨_,rfl,?_⟩;have n0_ := qq.mk (Kd.R_below (by (with_reducible repeat (first | apply Kd.jq | apply Kd.zx | apply Kd.jz));exact HO_4.out) hb);have n1_ := qq.mk (zv (by repeat (first | (with_reducible first | exact HB.out | apply qj | apply qz | apply qk) | exact HB.out)) hb);clear HO_4;clear HB;have HO_4 := n0_;have HB := n1_;clear n0_ n1_;(try clear hb);(try clear hb2);(try clear hk);(try clear hi)) | (go_at_call 42;(with_reducible refine (wv.calls k1 _ _ x4_1 t112 _ ?side1 ?side2 A46.out).mono ?_);(case side1 => repeat (first | exact (Kd.R_reads' HO_4.out).2.2 | (with_reducible refine Kd.C_alloc ?_ _) | (with_reducible refine Kd.C_drewN ?_ _) | (with_reducible refine Kd.C_drew ?_)));(case side2 => exact (Kd.R_reads' HO_4.out).2.1);rintro e w50 ⟨rfl,hb⟩;have n0_ := qq.mk (Kd.R_below (by (with_reducible repeat (first | apply Kd.jq | apply Kd.zx | apply Kd.jz));exact HO_4.out) hb);have n1_ := qq.mk (zv (by repeat (first | (with_reducible first | exact HB.out | apply qj | apply qz | apply qk) | exact HB.out)) hb);clear HO_4;clear HB;have HO_4 := n0_;have HB := n1_;clear n0_ n1_;(try clear hb);(try clear hb2);(try clear hk);(try clear hi)))
        go_ret2
        exact ⟨_,by first | rfl | (simp [*,jx,jw] <;> rfl),by (with_reducible repeat (first | apply Kd.jq | apply Kd.zx | apply Kd.jz));exact HO_4.out,by repeat (first | (with_reducible first | exact HB.out | apply qj | apply qz | apply qk) | exact HB.out)⟩
       ·rw [if_neg c47] at H
        have c47b0 : (t112.toList == a0.toList) = false := beq_eq_false_iff_ne.mpr c47
        have c47b1 : (t112.toList != a0.toList) = true := bne_iff_ne.mpr c47
        simp only [Option.some.injEq,Prod.mk.injEq] at H
        obtain ⟨rfl,rfl⟩ := H
        obtain ⟨Ao51,co51,eo51⟩ := Kd.R_slice HO_4.out
        subst eo51
        go_wp2_with (first | ((with_reducible refine kz (f := 101) rfl ?_);refine goesL_ (some 68) rfl rfl Try.func101 (by kernel_rfl) rfl #[.slice Ao51 x4_1.length co51] rfl (by (try simp only [List.map_toArray,List.map_cons,List.map_nil]);first | done | rfl | (simp only [List.length_drop,List.length_take];rfl)) ?_;(with_reducible refine (wq.calls k1 _ _ x4_1 true _ ?side1 ?side2 A44.out).mono ?_);(case side1 => repeat (first | exact (Kd.R_reads' HO_4.out).2.2 | (with_reducible refine Kd.C_alloc ?_ _) | (with_reducible refine Kd.C_drewN ?_ _) | (with_reducible refine Kd.C_drew ?_)));(case side2 => exact (Kd.R_reads' HO_4.out).2.1);rintro e w52 ⟨rfl,hb⟩;refine ⟨_,rfl,?_⟩;have n0_ := qq.mk (Kd.R_below (by (with_reducible repeat (first | apply Kd.jq | apply Kd.zx | apply Kd.jz));exact HO_4.out) hb);have n1_ := qq.mk (zv (by repeat (first | (with_reducible first | exact HB.out | apply qj | apply qz | apply qk) | exact HB.out)) hb);clear HO_4;clear HB;have HO_4 := n0_;have HB := n1_;clear n0_ n1_;(try clear hb);(try clear hb2);(try clear hk);(try clear hi)) | (go_at_call 42;(with_reducible refine (wv.calls k1 _ _ x4_1 t112 _ ?side1 ?side2 A46.out).mono ?_);(case side1 => repeat (first | exact (Kd.R_reads' HO_4.out).2.2 | (with_reducible refine Kd.C_alloc ?_ _) | (with_reducible refine Kd.C_drewN ?_ _) | (with_reducible refine Kd.C_drew ?_)));(case side2 => exact (Kd.R_reads' HO_4.out).2.1);rintro e w53 ⟨rfl,hb⟩;have n0_ := qq.mk (Kd.R_below (by (with_reducible repeat (first | apply Kd.jq | apply Kd.zx | apply Kd.jz));exact HO_4.out) hb);have n1_ := qq.mk (zv (by repeat (first | (with_reducible first | exact HB.out | apply qj | apply qz | apply qk) | exact HB.out)) hb);clear HO_4;clear HB;have HO_4 := n0_;have HB := n1_;clear n0_ n1_;(try clear hb);(try clear hb2);(try clear hk);(try clear hi)))
        go_ret2
        exact ⟨_,by first | rfl | (simp [*,jx,jw] <;> rfl),by first | exact Kd.R_nil _ _ _ _ _ | exact Kd.N_nil _ _ _ _ _ | exact Kd.V_nil _ _ _ _ _ | exact Kd.Q_nil _ _ _ _ _ | exact Kd.S_nil _ _ _ _ _,by repeat (first | (with_reducible first | exact HB.out | apply qj | apply qz | apply qk) | exact HB.out)⟩
      ·replace c45 := Bool.eq_false_iff.mpr c45
       subst c45
       have H1 : (some (([] : List (S122)),false)) = some (r1,r2) := by rw [if_neg (show ¬ (false = true) by decide)] at H;exact H
       clear H
       have H := H1
       clear H1
       simp only [Option.some.injEq,Prod.mk.injEq] at H
       obtain ⟨rfl,rfl⟩ := H
       obtain ⟨Ao54,co54,eo54⟩ := Kd.R_slice HO_4.out
       subst eo54
       go_wp2_with (first | ((with_reducible refine kz (f := 101) rfl ?_);refine goesL_ (some 68) rfl rfl Try.func101 (by kernel_rfl) rfl #[.slice Ao54 x4_1.length co54] rfl (by (try simp only [List.map_toArray,List.map_cons,List.map_nil]);first | done | rfl | (simp only [List.length_drop,List.length_take];rfl)) ?_;(with_reducible refine (wq.calls k1 _ _ x4_1 false _ ?side1 ?side2 A44.out).mono ?_);(case side1 => repeat (first | exact (Kd.R_reads' HO_4.out).2.2 | (with_reducible refine Kd.C_alloc ?_ _) | (with_reducible refine Kd.C_drewN ?_ _) | (with_reducible refine Kd.C_drew ?_)));(case side2 => exact (Kd.R_reads' HO_4.out).2.1);rintro e w55 ⟨rfl,hb⟩;refine ⟨_,rfl,?_⟩;have n0_ := qq.mk (Kd.R_below (by (with_reducible repeat (first | apply Kd.jq | apply Kd.zx | apply Kd.jz));exact HO_4.out) hb);have n1_ := qq.mk (zv (by repeat (first | (with_reducible first | exact HB.out | apply qj | apply qz | apply qk) | exact HB.out)) hb);clear HO_4;clear HB;have HO_4 := n0_;have HB := n1_;clear n0_ n1_;(try clear hb);(try clear hb2);(try clear hk);(try clear hi)))
       go_ret2
       exact ⟨_,by first | rfl | (simp [*,jx,jw] <;> rfl),by first | exact Kd.R_nil _ _ _ _ _ | exact Kd.N_nil _ _ _ _ _ | exact Kd.V_nil _ _ _ _ _ | exact Kd.Q_nil _ _ _ _ _ | exact Kd.S_nil _ _ _ _ _,by repeat (first | (with_reducible first | exact HB.out | apply qj | apply qz | apply qk) | exact HB.out)⟩
end Go.Proofs.Ytccbjchlcelkgaa.Pr
namespace Go.Proofs.Ytccbjchlcelkgaa.Pr
open Go.RowKit Go.Proofs.YtccbjchlcelkgaaW.PrintWords Go.Proofs.YtccbjchlcelkgaaW.PrintLast Go.Proofs.YtccbjchlcelkgaaW.PrintMore
attribute [local go_sem] max2_int min2_int max_two min_two max_three min_three max_four min_four
set_option linter.unusedVariables false
set_option linter.unusedSimpArgs false
theorem eqA122 (d : Nat) (w : World) (x0 y0 : ByteArray) (x1 y1 : ByteArray) :
  (Op.equalIn (d + 2) 122 (.agg #[.string x0,.string x1]) (.agg #[.string y0,.string y1])).run Try.prog w = .ok (x0.toList == y0.toList && (x1.toList == y1.toList)) w := by
 refine eqA_of Try.underlying122 (by kernel_rfl) ?_
 refine eqf_cons (by rfl) (by go_simp;rfl) (by go_simp;rfl) (by go_simp) ?_
 exact eqf_last (by rfl) (by go_simp;rfl) (by go_simp;rfl) (by go_simp)
end Go.Proofs.Ytccbjchlcelkgaa.Pr
namespace Go.Proofs.Ytccbjchlcelkgaa.Pr
open Go.RowKit Go.Proofs.YtccbjchlcelkgaaW.PrintWords Go.Proofs.YtccbjchlcelkgaaW.PrintLast Go.Proofs.YtccbjchlcelkgaaW.PrintMore
attribute [local go_sem] max2_int min2_int max_two min_two max_three min_three max_four min_four
set_option linter.unusedVariables false
set_option linter.unusedSimpArgs false
attribute [local go_sem high] eqA122
def qqk.l0 : Nat → List (S122) → List (S122) → Int → Int → Option (Bool)
 | 0,_,_,_,_ => none
 | k + 1,x0,x1,x12,x13 => if x13 < x12 then (if 0 ≤ x13 then (if x13 < (x0.length : Int) then (if x13 < (x1.length : Int) then (if (!((((vz x0 x13).f0).toList) == (((vz x1 x13).f0).toList)) || (!((((vz x0 x13).f1).toList) == (((vz x1 x13).f1).toList)))) = true then (some false) else (qqk.l0 k x0 x1 x12 (wrap64 (x13 + 1)))) else (none)) else (none)) else (none)) else (some true)
def qqk.f (k : Nat) (l0 : List (S122)) (l1 : List (S122)) : Option (Bool) := if (l0.length : Int) = (l1.length : Int) then (qqk.l0 k l0 l1 (l0.length : Int) 0) else (some false)
set_option maxHeartbeats 8000000 in
set_option maxRecDepth 100000 in
theorem qqk.calls (k : Nat) (A0 : Option Addr) (c0 : Nat) (l0 : List (S122)) (A1 : Option Addr) (c1 : Nat) (l1 : List (S122)) (r : Bool) (w : World) (hr0 : Kd.C k122 w A0 l0.length l0) (hc0 : l0.length ≤ c0) (hr1 : Kd.C k122 w A1 l1.length l1) (hc1 : l1.length ≤ c1) (h : qqk.f k l0 l1 = some r) :
  Calls Try.prog 45 #[.slice A0 l0.length c0,.slice A1 l1.length c1] w fun e w' => e = .returned (.bool r) ∧ Drawn0 w w' := by
 have hu122 := Try.underlying122
 have HR0 := qq.mk hr0
 have HC0 := qq.mk hc0
 clear hr0 hc0
 have HR1 := qq.mk hr1
 have HC1 := qq.mk hc1
 clear hr1 hc1
 have H : (if (l0.length : Int) = (l1.length : Int) then (qqk.l0 k l0 l1 (l0.length : Int) 0) else (some false)) = some r := h
 clear h
 by_cases c3 : (l0.length : Int) = (l1.length : Int)
 ·rw [if_pos c3] at H
  have c3b0 : ((l0.length : Int) == (l1.length : Int)) = true := beq_iff_eq.mpr c3
  have c3b1 : ((l0.length : Int) != (l1.length : Int)) = false := bne_eq_false_iff_eq.mpr c3
  have c3b2 : (l0.length == l1.length) = true := by first | simpa using c3 | (simp at c3 ⊢;omega)
  clear c3
  have H' := qq.mk H
  clear H
  go_enter Try.func45,Try.ntmps45
  go_wp2
  repeat (go_quiet (fail);try go_wp2)
  go_loopg [13] k (fun kq v13 w' => ∃ (x13_1 : Int),v13 = .int .i64 x13_1 ∧ qq (qqk.l0 kq l0 l1 (l0.length : Int) x13_1 = some r) ∧ qq (kq ≤ k) ∧ Drawn0 w w')
  case atStart => exact ⟨(0),(by first | rfl | (simp;done) | (simp [*];done)),H',⟨Nat.le_refl _⟩,by repeat (first | exact Drawn0.refl _ | apply Drawn0.step)⟩
  case round =>
   clear H'
   try clear c1
   try clear p2
   try clear c3
   try clear c3b0
   try clear c3b1
   try clear c3b2
   obtain ⟨x13_1,rfl,HA,HK1,⟨m1,rfl⟩⟩ := hrel
   cases gk with
   | zero => exact absurd HA.out (by simp [qqk.l0])
   | succ k1 =>
    have H := HA.out
    clear HA
    simp only [qqk.l0] at H
    by_cases c4 : x13_1 < (l0.length : Int)
    ·rw [if_pos c4] at H
     have c4b0 : decide (x13_1 < (l0.length : Int)) = true := decide_eq_true c4
     clear c4
     by_cases c5 : 0 ≤ x13_1
     ·rw [if_pos c5] at H
      have c5b0 : decide (0 ≤ x13_1) = true := decide_eq_true c5
      clear c5
      by_cases c6 : x13_1 < (l0.length : Int)
      ·rw [if_pos c6] at H
       have c6b0 : decide (x13_1 < (l0.length : Int)) = true := decide_eq_true c6
       clear c6
       by_cases c7 : x13_1 < (l1.length : Int)
       ·rw [if_pos c7] at H
        have c7b0 : decide (x13_1 < (l1.length : Int)) = true := decide_eq_true c7
        clear c7
        by_cases c8 : (!((((vz l0 x13_1).f0).toList) == (((vz l1 x13_1).f0).toList)) || (!((((vz l0 x13_1).f1).toList) == (((vz l1 x13_1).f1).toList)))) = true
        ·rw [if_pos c8] at H
         have c8b0 : (!((((vz l0 x13_1).f0).toList) == (((vz l1 x13_1).f0).toList)) || (!((((vz l0 x13_1).f1).toList) == (((vz l1 x13_1).f1).toList)))) = true := c8
         clear c8
         obtain rfl := Option.some.inj H
         have p101 : 0 ≤ (x13_1 : Int) := of_decide_eq_true (by assumption)
         have q101 : x13_1 < (l0.length : Int) := of_decide_eq_true (by assumption)
         obtain ⟨ad101,e101,hx101_0,hx101_1⟩ := at_T122 HR0.out x13_1 p101 q101
         cases e101
         replace p101 := eq_true p101
         replace q101 := eq_true q101
         have p102 : 0 ≤ (x13_1 : Int) := of_decide_eq_true (by assumption)
         have q102 : x13_1 < (l1.length : Int) := of_decide_eq_true (by assumption)
         obtain ⟨ad102,e102,hx102_0,hx102_1⟩ := at_T122 HR1.out x13_1 p102 q102
         cases e102
         replace p102 := eq_true p102
         replace q102 := eq_true q102
         go_wp2
         repeat (go_quiet (fail);try go_wp2)
         go_ret
         exact ⟨by first | rfl | (simp;done) | (simp [*];done),by repeat (first | exact Drawn0.refl _ | apply Drawn0.step)⟩
        ·rw [if_neg c8] at H
         have c8b0 : (!((((vz l0 x13_1).f0).toList) == (((vz l1 x13_1).f0).toList)) || (!((((vz l0 x13_1).f1).toList) == (((vz l1 x13_1).f1).toList)))) = false := by simpa using c8
         clear c8
         have H' := qq.mk H
         clear H
         have p101 : 0 ≤ (x13_1 : Int) := of_decide_eq_true (by assumption)
         have q101 : x13_1 < (l0.length : Int) := of_decide_eq_true (by assumption)
         obtain ⟨ad101,e101,hx101_0,hx101_1⟩ := at_T122 HR0.out x13_1 p101 q101
         cases e101
         replace p101 := eq_true p101
         replace q101 := eq_true q101
         have p102 : 0 ≤ (x13_1 : Int) := of_decide_eq_true (by assumption)
         have q102 : x13_1 < (l1.length : Int) := of_decide_eq_true (by assumption)
         obtain ⟨ad102,e102,hx102_0,hx102_1⟩ := at_T122 HR1.out x13_1 p102 q102
         cases e102
         replace p102 := eq_true p102
         replace q102 := eq_true q102
         go_wp2
         repeat (go_quiet (fail);try go_wp2)
         go_roundg k1
         case measure => have := HK1.out;omega
         case rel => exact ⟨(wrap64 (x13_1 + 1)),(by first | rfl | (simp;done) | (simp [*];done)),H',⟨by have := HK1.out;omega⟩,by repeat (first | exact Drawn0.refl _ | apply Drawn0.step)⟩
       ·rw [if_neg c7] at H
        exact absurd H (by simp)
      ·rw [if_neg c6] at H
       exact absurd H (by simp)
     ·rw [if_neg c5] at H
      exact absurd H (by simp)
    ·rw [if_neg c4] at H
     have c4b0 : decide (x13_1 < (l0.length : Int)) = false := decide_eq_false c4
     clear c4
     obtain rfl := Option.some.inj H
     go_wp2
     repeat (go_quiet (fail);try go_wp2)
     go_ret
     exact ⟨by first | rfl | (simp;done) | (simp [*];done),by repeat (first | exact Drawn0.refl _ | apply Drawn0.step)⟩
 ·rw [if_neg c3] at H
  have c3b0 : ((l0.length : Int) == (l1.length : Int)) = false := beq_eq_false_iff_ne.mpr c3
  have c3b1 : ((l0.length : Int) != (l1.length : Int)) = true := bne_iff_ne.mpr c3
  have c3b2 : (l0.length == l1.length) = false := by first | simpa using c3 | (simp at c3 ⊢;omega)
  obtain rfl := Option.some.inj H
  go_enter Try.func45,Try.ntmps45
  go_wp2
  repeat (go_quiet (fail);try go_wp2)
  go_ret
  exact ⟨by first | rfl | (simp;done) | (simp [*];done),by repeat (first | exact Drawn0.refl _ | apply Drawn0.step)⟩
end Go.Proofs.Ytccbjchlcelkgaa.Pr
namespace Go.Proofs.Ytccbjchlcelkgaa.Pr
open Go.RowKit Go.Proofs.YtccbjchlcelkgaaW.PrintWords Go.Proofs.YtccbjchlcelkgaaW.PrintLast Go.Proofs.YtccbjchlcelkgaaW.PrintMore
attribute [local go_sem] max2_int min2_int max_two min_two max_three min_three max_four min_four
set_option linter.unusedVariables false
set_option linter.unusedSimpArgs false
attribute [local go_sem high] eqA122
def ww.l0 : Nat → List (S122) → List (S122) → Int → Int → Option (Bool)
 | 0,_,_,_,_ => none
 | k + 1,x0,x1,x12,x13 => if x13 < x12 then (if 0 ≤ x13 then (if x13 < (x0.length : Int) then (if x13 < (x1.length : Int) then (if (!((((vz x0 x13).f0).toList) == (((vz x1 x13).f0).toList)) || (!((((vz x0 x13).f1).toList) == (((vz x1 x13).f1).toList)))) = true then (some false) else (ww.l0 k x0 x1 x12 (wrap64 (x13 + 1)))) else (none)) else (none)) else (none)) else (some true)
def ww.f (k : Nat) (l0 : List (S122)) (l1 : List (S122)) : Option (Bool) := if (l0.length : Int) = (l1.length : Int) then (ww.l0 k l0 l1 (l0.length : Int) 0) else (some false)
set_option maxHeartbeats 8000000 in
set_option maxRecDepth 100000 in
theorem ww.calls (k : Nat) (A0 : Option Addr) (c0 : Nat) (l0 : List (S122)) (A1 : Option Addr) (c1 : Nat) (l1 : List (S122)) (r : Bool) (w : World) (hr0 : Kd.C k122 w A0 l0.length l0) (hc0 : l0.length ≤ c0) (hr1 : Kd.C k122 w A1 l1.length l1) (hc1 : l1.length ≤ c1) (h : ww.f k l0 l1 = some r) :
  Calls Try.prog 106 #[.slice A0 l0.length c0,.slice A1 l1.length c1] w fun e w' => e = .returned (.bool r) ∧ Drawn0 w w' := by
 have hu122 := Try.underlying122
 have HR0 := qq.mk hr0
 have HC0 := qq.mk hc0
 clear hr0 hc0
 have HR1 := qq.mk hr1
 have HC1 := qq.mk hc1
 clear hr1 hc1
 have H : (if (l0.length : Int) = (l1.length : Int) then (ww.l0 k l0 l1 (l0.length : Int) 0) else (some false)) = some r := h
 clear h
 by_cases c3 : (l0.length : Int) = (l1.length : Int)
 ·rw [if_pos c3] at H
  have c3b0 : ((l0.length : Int) == (l1.length : Int)) = true := beq_iff_eq.mpr c3
  have c3b1 : ((l0.length : Int) != (l1.length : Int)) = false := bne_eq_false_iff_eq.mpr c3
  have c3b2 : (l0.length == l1.length) = true := by first | simpa using c3 | (simp at c3 ⊢;omega)
  clear c3
  have H' := qq.mk H
  clear H
  go_enter Try.func106,Try.ntmps106
  go_wp2
  repeat (go_quiet (fail);try go_wp2)
  go_loopg [13] k (fun kq v13 w' => ∃ (x13_1 : Int),v13 = .int .i64 x13_1 ∧ qq (ww.l0 kq l0 l1 (l0.length : Int) x13_1 = some r) ∧ qq (kq ≤ k) ∧ Drawn0 w w')
  case atStart => exact ⟨(0),(by first | rfl | (simp;done) | (simp [*];done)),H',⟨Nat.le_refl _⟩,by repeat (first | exact Drawn0.refl _ | apply Drawn0.step)⟩
  case round =>
   clear H'
   try clear c1
   try clear p2
   try clear c3
   try clear c3b0
   try clear c3b1
   try clear c3b2
   obtain ⟨x13_1,rfl,HA,HK1,⟨m1,rfl⟩⟩ := hrel
   cases gk with
   | zero => exact absurd HA.out (by simp [ww.l0])
   | succ k1 =>
    have H := HA.out
    clear HA
    simp only [ww.l0] at H
    by_cases c4 : x13_1 < (l0.length : Int)
    ·rw [if_pos c4] at H
     have c4b0 : decide (x13_1 < (l0.length : Int)) = true := decide_eq_true c4
     clear c4
     by_cases c5 : 0 ≤ x13_1
     ·rw [if_pos c5] at H
      have c5b0 : decide (0 ≤ x13_1) = true := decide_eq_true c5
      clear c5
      by_cases c6 : x13_1 < (l0.length : Int)
      ·rw [if_pos c6] at H
       have c6b0 : decide (x13_1 < (l0.length : Int)) = true := decide_eq_true c6
       clear c6
       by_cases c7 : x13_1 < (l1.length : Int)
       ·rw [if_pos c7] at H
        have c7b0 : decide (x13_1 < (l1.length : Int)) = true := decide_eq_true c7
        clear c7
        by_cases c8 : (!((((vz l0 x13_1).f0).toList) == (((vz l1 x13_1).f0).toList)) || (!((((vz l0 x13_1).f1).toList) == (((vz l1 x13_1).f1).toList)))) = true
        ·rw [if_pos c8] at H
         have c8b0 : (!((((vz l0 x13_1).f0).toList) == (((vz l1 x13_1).f0).toList)) || (!((((vz l0 x13_1).f1).toList) == (((vz l1 x13_1).f1).toList)))) = true := c8
         clear c8
         obtain rfl := Option.some.inj H
         have p101 : 0 ≤ (x13_1 : Int) := of_decide_eq_true (by assumption)
         have q101 : x13_1 < (l0.length : Int) := of_decide_eq_true (by assumption)
         obtain ⟨ad101,e101,hx101_0,hx101_1⟩ := at_T122 HR0.out x13_1 p101 q101
         cases e101
         replace p101 := eq_true p101
         replace q101 := eq_true q101
         have p102 : 0 ≤ (x13_1 : Int) := of_decide_eq_true (by assumption)
         have q102 : x13_1 < (l1.length : Int) := of_decide_eq_true (by assumption)
         obtain ⟨ad102,e102,hx102_0,hx102_1⟩ := at_T122 HR1.out x13_1 p102 q102
         cases e102
         replace p102 := eq_true p102
         replace q102 := eq_true q102
         go_wp2
         repeat (go_quiet (fail);try go_wp2)
         go_ret
         exact ⟨by first | rfl | (simp;done) | (simp [*];done),by repeat (first | exact Drawn0.refl _ | apply Drawn0.step)⟩
        ·rw [if_neg c8] at H
         have c8b0 : (!((((vz l0 x13_1).f0).toList) == (((vz l1 x13_1).f0).toList)) || (!((((vz l0 x13_1).f1).toList) == (((vz l1 x13_1).f1).toList)))) = false := by simpa using c8
         clear c8
         have H' := qq.mk H
         clear H
         have p101 : 0 ≤ (x13_1 : Int) := of_decide_eq_true (by assumption)
         have q101 : x13_1 < (l0.length : Int) := of_decide_eq_true (by assumption)
         obtain ⟨ad101,e101,hx101_0,hx101_1⟩ := at_T122 HR0.out x13_1 p101 q101
         cases e101
         replace p101 := eq_true p101
         replace q101 := eq_true q101
         have p102 : 0 ≤ (x13_1 : Int) := of_decide_eq_true (by assumption)
         have q102 : x13_1 < (l1.length : Int) := of_decide_eq_true (by assumption)
         obtain ⟨ad102,e102,hx102_0,hx102_1⟩ := at_T122 HR1.out x13_1 p102 q102
         cases e102
         replace p102 := eq_true p102
         replace q102 := eq_true q102
         go_wp2
         repeat (go_quiet (fail);try go_wp2)
         go_roundg k1
         case measure => have := HK1.out;omega
         case rel => exact ⟨(wrap64 (x13_1 + 1)),(by first | rfl | (simp;done) | (simp [*];done)),H',⟨by have := HK1.out;omega⟩,by repeat (first | exact Drawn0.refl _ | apply Drawn0.step)⟩
       ·rw [if_neg c7] at H
        exact absurd H (by simp)
      ·rw [if_neg c6] at H
       exact absurd H (by simp)
     ·rw [if_neg c5] at H
      exact absurd H (by simp)
    ·rw [if_neg c4] at H
     have c4b0 : decide (x13_1 < (l0.length : Int)) = false := decide_eq_false c4
     clear c4
     obtain rfl := Option.some.inj H
     go_wp2
     repeat (go_quiet (fail);try go_wp2)
     go_ret
     exact ⟨by first | rfl | (simp;done) | (simp [*];done),by repeat (first | exact Drawn0.refl _ | apply Drawn0.step)⟩
 ·rw [if_neg c3] at H
  have c3b0 : ((l0.length : Int) == (l1.length : Int)) = false := beq_eq_false_iff_ne.mpr c3
  have c3b1 : ((l0.length : Int) != (l1.length : Int)) = true := bne_iff_ne.mpr c3
  have c3b2 : (l0.length == l1.length) = false := by first | simpa using c3 | (simp at c3 ⊢;omega)
  obtain rfl := Option.some.inj H
  go_enter Try.func106,Try.ntmps106
  go_wp2
  repeat (go_quiet (fail);try go_wp2)
  go_ret
  exact ⟨by first | rfl | (simp;done) | (simp [*];done),by repeat (first | exact Drawn0.refl _ | apply Drawn0.step)⟩
end Go.Proofs.Ytccbjchlcelkgaa.Pr
namespace Go.Proofs.Ytccbjchlcelkgaa.Pr
open Go.RowKit Go.Proofs.YtccbjchlcelkgaaW.PrintWords Go.Proofs.YtccbjchlcelkgaaW.PrintLast Go.Proofs.YtccbjchlcelkgaaW.PrintMore
attribute [local go_sem] max2_int min2_int max_two min_two max_three min_three max_four min_four
set_option linter.unusedVariables false
set_option linter.unusedSimpArgs false
def xz.f (k : Nat) (l0 : List (S122)) (l1 : List (S122)) : Option (Bool) := (wq.f k l0).bind fun t101 => (if t101 = true then ((wq.f k l1).bind fun t102 => (if t102 = true then (if (l0.length : Int) ≥ (l1.length : Int) then (if 0 ≤ (wrap64 ((l0.length : Int) - (l1.length : Int))) then (if (wrap64 ((l0.length : Int) - (l1.length : Int))) ≤ (l0.length : Int) then ((ww.f k (l0.drop ((wrap64 ((l0.length : Int) - (l1.length : Int))) : Int).toNat) l1).bind fun t107 => (some t107)) else (none)) else (none)) else (some false)) else (some false))) else (some false))
set_option maxHeartbeats 8000000 in
set_option maxRecDepth 100000 in
theorem xz.calls (k : Nat) (A0 : Option Addr) (c0 : Nat) (l0 : List (S122)) (A1 : Option Addr) (c1 : Nat) (l1 : List (S122)) (r : Bool) (w : World) (hr0 : Kd.C k122 w A0 l0.length l0) (hc0 : l0.length ≤ c0) (hr1 : Kd.C k122 w A1 l1.length l1) (hc1 : l1.length ≤ c1) (h : xz.f k l0 l1 = some r) :
  Calls Try.prog 46 #[.slice A0 l0.length c0,.slice A1 l1.length c1] w fun e w' => e = .returned (.bool r) ∧ Below w.heap.size w w' := by
 have HR0 := qq.mk hr0
 have HC0 := qq.mk hc0
 clear hr0 hc0
 have HR1 := qq.mk hr1
 have HC1 := qq.mk hc1
 clear hr1 hc1
 have HB := qq.mk (Below.refl w.heap.size w)
 have H : ((wq.f k l0).bind fun t101 => (if t101 = true then ((wq.f k l1).bind fun t102 => (if t102 = true then (if (l0.length : Int) ≥ (l1.length : Int) then (if 0 ≤ (wrap64 ((l0.length : Int) - (l1.length : Int))) then (if (wrap64 ((l0.length : Int) - (l1.length : Int))) ≤ (l0.length : Int) then ((ww.f k (l0.drop ((wrap64 ((l0.length : Int) - (l1.length : Int))) : Int).toNat) l1).bind fun t107 => (some t107)) else (none)) else (none)) else (some false)) else (some false))) else (some false))) = some r := h
 clear h
 replace H := Option.bind_eq_some_iff.mp H
 obtain ⟨t101,A30,H⟩ := H
 replace H : (if t101 = true then ((wq.f k l1).bind fun t102 => (if t102 = true then (if (l0.length : Int) ≥ (l1.length : Int) then (if 0 ≤ (wrap64 ((l0.length : Int) - (l1.length : Int))) then (if (wrap64 ((l0.length : Int) - (l1.length : Int))) ≤ (l0.length : Int) then ((ww.f k (l0.drop ((wrap64 ((l0.length : Int) - (l1.length : Int))) : Int).toNat) l1).bind fun t107 => (some t107)) else (none)) else (none)) else (some false)) else (some false))) else (some false)) = some r := H
 have A3 := qq.mk A30
 clear A30
 by_cases c4 : t101 = true
 ·subst c4
  have H1 : ((wq.f k l1).bind fun t102 => (if t102 = true then (if (l0.length : Int) ≥ (l1.length : Int) then (if 0 ≤ (wrap64 ((l0.length : Int) - (l1.length : Int))) then (if (wrap64 ((l0.length : Int) - (l1.length : Int))) ≤ (l0.length : Int) then ((ww.f k (l0.drop ((wrap64 ((l0.length : Int) - (l1.length : Int))) : Int).toNat) l1).bind fun t107 => (some t107)) else (none)) else (none)) else (some false)) else (some false))) = some r := by rw [if_pos rfl] at H;exact H
  clear H
  have H := H1
  clear H1
  replace H := Option.bind_eq_some_iff.mp H
  obtain ⟨t102,A50,H⟩ := H
  replace H : (if t102 = true then (if (l0.length : Int) ≥ (l1.length : Int) then (if 0 ≤ (wrap64 ((l0.length : Int) - (l1.length : Int))) then (if (wrap64 ((l0.length : Int) - (l1.length : Int))) ≤ (l0.length : Int) then ((ww.f k (l0.drop ((wrap64 ((l0.length : Int) - (l1.length : Int))) : Int).toNat) l1).bind fun t107 => (some t107)) else (none)) else (none)) else (some false)) else (some false)) = some r := H
  have A5 := qq.mk A50
  clear A50
  by_cases c6 : t102 = true
  ·subst c6
   have H1 : (if (l0.length : Int) ≥ (l1.length : Int) then (if 0 ≤ (wrap64 ((l0.length : Int) - (l1.length : Int))) then (if (wrap64 ((l0.length : Int) - (l1.length : Int))) ≤ (l0.length : Int) then ((ww.f k (l0.drop ((wrap64 ((l0.length : Int) - (l1.length : Int))) : Int).toNat) l1).bind fun t107 => (some t107)) else (none)) else (none)) else (some false)) = some r := by rw [if_pos rfl] at H;exact H
   clear H
   have H := H1
   clear H1
   by_cases c7 : (l0.length : Int) ≥ (l1.length : Int)
   ·rw [if_pos c7] at H
    have c7b0 : decide ((l1.length : Int) ≤ (l0.length : Int)) = true := decide_eq_true c7
    have c7b1 : decide (l1.length ≤ l0.length) = true := decide_eq_true (Int.ofNat_le.mp c7)
    clear c7
    obtain ⟨ji8,hji8⟩ : ∃ j_ : Int,(wrap64 ((l0.length : Int) - (l1.length : Int))) = j_ := ⟨_,rfl⟩
    replace H : (if 0 ≤ (ji8) then (if (ji8) ≤ (l0.length : Int) then ((ww.f k (l0.drop ((ji8) : Int).toNat) l1).bind fun t107 => (some t107)) else (none)) else (none)) = some r := by first | (rw [hji8] at H;exact H) | (simp only [hji8] at H ⊢;exact H)
    (try rw [hji8] at A3)
    (try rw [hji8] at A5)
    have hji8w : (IntKind.i64.wrap ((l0.length : Int) - (l1.length : Int))) = ji8 := (i64_w _).trans hji8
    by_cases c9 : 0 ≤ (ji8)
    ·rw [if_pos c9] at H
     have c9b0 := eq_true c9
     have c9b1 : decide (0 ≤ (ji8)) = true := decide_eq_true c9
     clear c9
     by_cases c10 : (ji8) ≤ (l0.length : Int)
     ·rw [if_pos c10] at H
      have c10b0 := eq_true c10
      have c10b1 : decide ((ji8) ≤ (l0.length : Int)) = true := decide_eq_true c10
      clear c10
      obtain ⟨y103,hy103⟩ : ∃ y_ : List (S122),y_ = (l0.drop ((ji8) : Int).toNat) := ⟨_,rfl⟩
      replace H : ((ww.f k y103 l1).bind fun t107 => (some t107)) = some r := by first | (rw [hy103];with_reducible exact H) | (have H2_ := (Option.bind_some _ _).symm.trans H;rw [hy103];with_reducible exact H2_) | (have H2_ := (Option.bind_some _ _).symm.trans H;with_reducible exact H2_) | with_reducible exact H | (rw [hy103];exact H) | exact H
      have Ny103 := qq.mk hy103
      clear hy103
      replace H := Option.bind_eq_some_iff.mp H
      obtain ⟨t107,A110,H⟩ := H
      replace H : (some t107) = some r := H
      have A11 := qq.mk A110
      clear A110
      obtain rfl := Option.some.inj H
      go_enter Try.func46,Try.ntmps46
      go_wp2_with (first | ((with_reducible refine kz (f := 101) rfl ?_);refine goesL_ (some 6) rfl rfl Try.func101 (by kernel_rfl) rfl #[.slice A0 l0.length c0] rfl (by (try simp only [List.map_toArray,List.map_cons,List.map_nil]);first | done | rfl | (simp only [List.length_drop,List.length_take];rfl)) ?_;(with_reducible refine (wq.calls k _ _ l0 true _ ?side1 ?side2 A3.out).mono ?_);(case side1 => repeat (first | exact HR0.out | (with_reducible refine Kd.C_alloc ?_ _) | (with_reducible refine Kd.C_drewN ?_ _) | (with_reducible refine Kd.C_drew ?_)));(case side2 => exact HC0.out);rintro e w12 ⟨rfl,hb⟩;refine ⟨_,rfl,?_⟩;have n0_ := qq.mk (zv (by repeat (first | (with_reducible first | exact HB.out | apply qj | apply qz | apply qk) | exact HB.out)) hb);clear HB;have HB := n0_;clear n0_;(try clear hb);(try clear hb2);(try clear hk);(try clear hi)) | (go_at_call 101;(with_reducible refine (wq.calls k _ _ l1 true _ ?side1 ?side2 A5.out).mono ?_);(case side1 => repeat (first | exact (Kd.C_below HR1.out HB.out) | (with_reducible refine Kd.C_alloc ?_ _) | (with_reducible refine Kd.C_drewN ?_ _) | (with_reducible refine Kd.C_drew ?_)));(case side2 => exact HC1.out);rintro e w13 ⟨rfl,hb⟩;have n0_ := qq.mk (zv (by repeat (first | (with_reducible first | exact HB.out | apply qj | apply qz | apply qk) | exact HB.out)) hb);clear HB;have HB := n0_;clear n0_;(try clear hb);(try clear hb2);(try clear hk);(try clear hi);have q14 : ((ji8) : Int) ≤ ((l0.length : Int) : Int) := of_decide_eq_true (by assumption);obtain ⟨i014,hi014,_,hsz14,_⟩ := info_parts info122;have hroom14 : l0.length ≤ c0 := HC0.out;have hC14 : Kd.C k122 _ A0 l0.length l0 := HR0.out;have q014 : (0 : Int) ≤ ((ji8) : Int) := of_decide_eq_true (by assumption);have hcut14 := cut_from (P := Try.prog) 62 122 .i64 Try.underlying62 hi014 2 hsz14 A0 l0.length c0 (ji8) q014 q14;have hr14 := Kd.C_drop (m := ((ji8) : Int).toNat) (c := c0) hC14 (by omega) hroom14;obtain ⟨A14,hA14⟩ : ∃ A1,A1 = (if c0 = ((ji8) : Int).toNat then A0 else (A0 : Option Addr).map (·.add (((ji8) : Int).toNat * 2))) := ⟨_,rfl⟩;obtain ⟨c14,hc14⟩ : ∃ c1,c1 = c0 - ((ji8) : Int).toNat := ⟨_,rfl⟩;have hy14 : y103.length = l0.length - ((ji8) : Int).toNat := (by rw [Ny103.out,List.length_drop] <;> omega);rw [show (l0).drop ((ji8) : Int).toNat = y103 from Ny103.out.symm] at hr14;replace hr14 : Kd.C k122 _ A14 y103.length y103 := (by rw [hA14];exact hr14);rw [← hy14,← hA14,← hc14] at hcut14;have HR106 := qq.mk hr14;have HC106 := qq.mk (show y103.length ≤ c14 from by rw [hy14,hc14];exact Nat.sub_le_sub_right hroom14 _);clear hr14 hC14 hroom14 hi014 hsz14 hc14;have KY14 := qq.mk hy14;have KA14 := qq.mk hA14;clear hy14 hA14;replace q14 := eq_true q14) | (go_at_call 106;(with_reducible refine (ww.calls k _ _ y103 _ _ l1 t107 _ ?side1 ?side2 ?side3 ?side4 A11.out).mono ?_);(case side1 => repeat (first | exact (Kd.C_below HR106.out HB.out) | (with_reducible refine Kd.C_alloc ?_ _) | (with_reducible refine Kd.C_drewN ?_ _) | (with_reducible refine Kd.C_drew ?_)));(case side2 => exact HC106.out);(case side3 => repeat (first | exact (Kd.C_below HR1.out HB.out) | (with_reducible refine Kd.C_alloc ?_ _) | (with_reducible refine Kd.C_drewN ?_ _) | (with_reducible refine Kd.C_drew ?_)));(case side4 => exact HC1.out);rintro e w' ⟨rfl,⟨nd,rfl⟩⟩))
      go_ret
      exact ⟨by first | rfl | (simp [jx,jw] <;> rfl) | (simp only [← hji8];first | rfl | (simp [jx,jw] <;> rfl)) | (simp [*,jx,jw] <;> rfl),by repeat (first | (with_reducible first | exact HB.out | apply qj | apply qz | apply qk) | exact HB.out)⟩
     ·rw [if_neg c10] at H
      exact absurd H (by simp)
    ·rw [if_neg c9] at H
     exact absurd H (by simp)
   ·rw [if_neg c7] at H
    have c7b0 : decide ((l1.length : Int) ≤ (l0.length : Int)) = false := decide_eq_false c7
    have c7b1 : decide (l1.length ≤ l0.length) = false := decide_eq_false (fun h => c7 (Int.ofNat_le.mpr h))
    clear c7
    obtain rfl := Option.some.inj H
    go_enter Try.func46,Try.ntmps46
    go_wp2_with (first | ((with_reducible refine kz (f := 101) rfl ?_);refine goesL_ (some 6) rfl rfl Try.func101 (by kernel_rfl) rfl #[.slice A0 l0.length c0] rfl (by (try simp only [List.map_toArray,List.map_cons,List.map_nil]);first | done | rfl | (simp only [List.length_drop,List.length_take];rfl)) ?_;(with_reducible refine (wq.calls k _ _ l0 true _ ?side1 ?side2 A3.out).mono ?_);(case side1 => repeat (first | exact HR0.out | (with_reducible refine Kd.C_alloc ?_ _) | (with_reducible refine Kd.C_drewN ?_ _) | (with_reducible refine Kd.C_drew ?_)));(case side2 => exact HC0.out);rintro e w15 ⟨rfl,hb⟩;refine ⟨_,rfl,?_⟩;have n0_ := qq.mk (zv (by repeat (first | (with_reducible first | exact HB.out | apply qj | apply qz | apply qk) | exact HB.out)) hb);clear HB;have HB := n0_;clear n0_;(try clear hb);(try clear hb2);(try clear hk);(try clear hi)) | (go_at_call 101;(with_reducible refine (wq.calls k _ _ l1 true _ ?side1 ?side2 A5.out).mono ?_);(case side1 => repeat (first | exact (Kd.C_below HR1.out HB.out) | (with_reducible refine Kd.C_alloc ?_ _) | (with_reducible refine Kd.C_drewN ?_ _) | (with_reducible refine Kd.C_drew ?_)));(case side2 => exact HC1.out);rintro e w16 ⟨rfl,hb⟩;have n0_ := qq.mk (zv (by repeat (first | (with_reducible first | exact HB.out | apply qj | apply qz | apply qk) | exact HB.out)) hb);clear HB;have HB := n0_;clear n0_;(try clear hb);(try clear hb2);(try clear hk);(try clear hi)))
    go_ret
    exact ⟨by first | rfl | (simp [*,jx,jw] <;> rfl),by repeat (first | (with_reducible first | exact HB.out | apply qj | apply qz | apply qk) | exact HB.out)⟩
  ·replace c6 := Bool.eq_false_iff.mpr c6
   subst c6
   have H1 : (some false) = some r := by rw [if_neg (show ¬ (false = true) by decide)] at H;exact H
   clear H
   have H := H1
   clear H1
   obtain rfl := Option.some.inj H
   go_enter Try.func46,Try.ntmps46
   go_wp2_with (first | ((with_reducible refine kz (f := 101) rfl ?_);refine goesL_ (some 6) rfl rfl Try.func101 (by kernel_rfl) rfl #[.slice A0 l0.length c0] rfl (by (try simp only [List.map_toArray,List.map_cons,List.map_nil]);first | done | rfl | (simp only [List.length_drop,List.length_take];rfl)) ?_;(with_reducible refine (wq.calls k _ _ l0 true _ ?side1 ?side2 A3.out).mono ?_);(case side1 => repeat (first | exact HR0.out | (with_reducible refine Kd.C_alloc ?_ _) | (with_reducible refine Kd.C_drewN ?_ _) | (with_reducible refine Kd.C_drew ?_)));(case side2 => exact HC0.out);rintro e w17 ⟨rfl,hb⟩;refine ⟨_,rfl,?_⟩;have n0_ := qq.mk (zv (by repeat (first | (with_reducible first | exact HB.out | apply qj | apply qz | apply qk) | exact HB.out)) hb);clear HB;have HB := n0_;clear n0_;(try clear hb);(try clear hb2);(try clear hk);(try clear hi)) | (go_at_call 101;(with_reducible refine (wq.calls k _ _ l1 false _ ?side1 ?side2 A5.out).mono ?_);(case side1 => repeat (first | exact (Kd.C_below HR1.out HB.out) | (with_reducible refine Kd.C_alloc ?_ _) | (with_reducible refine Kd.C_drewN ?_ _) | (with_reducible refine Kd.C_drew ?_)));(case side2 => exact HC1.out);rintro e w18 ⟨rfl,hb⟩;have n0_ := qq.mk (zv (by repeat (first | (with_reducible first | exact HB.out | apply qj | apply qz | apply qk) | exact HB.out)) hb);clear HB;have HB := n0_;clear n0_;(try clear hb);(try clear hb2);(try clear hk);(try clear hi)))
   go_ret
   exact ⟨by first | rfl | (simp [*,jx,jw] <;> rfl),by repeat (first | (with_reducible first | exact HB.out | apply qj | apply qz | apply qk) | exact HB.out)⟩
 ·replace c4 := Bool.eq_false_iff.mpr c4
  subst c4
  have H1 : (some false) = some r := by rw [if_neg (show ¬ (false = true) by decide)] at H;exact H
  clear H
  have H := H1
  clear H1
  obtain rfl := Option.some.inj H
  go_enter Try.func46,Try.ntmps46
  go_wp2_with (first | ((with_reducible refine kz (f := 101) rfl ?_);refine goesL_ (some 6) rfl rfl Try.func101 (by kernel_rfl) rfl #[.slice A0 l0.length c0] rfl (by (try simp only [List.map_toArray,List.map_cons,List.map_nil]);first | done | rfl | (simp only [List.length_drop,List.length_take];rfl)) ?_;(with_reducible refine (wq.calls k _ _ l0 false _ ?side1 ?side2 A3.out).mono ?_);(case side1 => repeat (first | exact HR0.out | (with_reducible refine Kd.C_alloc ?_ _) | (with_reducible refine Kd.C_drewN ?_ _) | (with_reducible refine Kd.C_drew ?_)));(case side2 => exact HC0.out);rintro e w19 ⟨rfl,hb⟩;refine ⟨_,rfl,?_⟩;have n0_ := qq.mk (zv (by repeat (first | (with_reducible first | exact HB.out | apply qj | apply qz | apply qk) | exact HB.out)) hb);clear HB;have HB := n0_;clear n0_;(try clear hb);(try clear hb2);(try clear hk);(try clear hi)))
  go_ret
  exact ⟨by first | rfl | (simp [*,jx,jw] <;> rfl),by repeat (first | (with_reducible first | exact HB.out | apply qj | apply qz | apply qk) | exact HB.out)⟩
end Go.Proofs.Ytccbjchlcelkgaa.Pr
