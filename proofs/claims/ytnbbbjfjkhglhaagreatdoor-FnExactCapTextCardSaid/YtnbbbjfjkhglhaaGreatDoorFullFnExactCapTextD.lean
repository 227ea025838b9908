/- Printed texts, walks and plain facts that the law FnExactCapText leans on, joined. -/
import Derived.Test.YtnbbbjfjkhglhaaGreatDoorFullFnExactCapTextC
import Derived.Deep.QuietTactic
import Derived.BigQuiet
import Derived.Laws.Cover1
namespace Go.Proofs.YtnbbbjfjkhglhaaGreatDoor.Pr
open Go.RowKit Go.Proofs.YtnbbbjfjkhglhaaGreatDoorW.PrintWords Go.Proofs.YtnbbbjfjkhglhaaGreatDoorW.PrintLast Go.Proofs.YtnbbbjfjkhglhaaGreatDoorW.PrintMore
attribute [local go_sem] max2_int min2_int max_two min_two max_three min_three max_four min_four
set_option linter.unusedVariables false
set_option linter.unusedSimpArgs false
mutual
def qjk.j0 : Nat → Bool → Int → Int → ByteArray → ByteArray → Option (Bool)
 | 0,_,_,_,_,_ => none
 | k + 1,x27,x102000,x102001,x102002,x102003 => if x27 = true then (some false) else (if x102000 = 1 then (if x102001 = 0 then (some true) else (some (x102001 == 1))) else (if x102000 = 2 then (qjk.j1 k x102000 (x102000 == 2) x102000 x102001 x102002 x102003) else (qjk.j1 k x102000 (x102000 == 5) x102000 x102001 x102002 x102003)))
def qjk.j1 : Nat → Int → Bool → Int → Int → ByteArray → ByteArray → Option (Bool)
 | 0,_,_,_,_,_,_ => none
 | k + 1,x29,x40,x102000,x102001,x102002,x102003 => if x40 = true then (some true) else (if x29 = 3 then (if x102001 = 0 then (if (x102002.size : Int) ≤ 200 then ((qkx.f k x102002).bind fun t102 => (some t102)) else (some false)) else (some false)) else (if x29 = 4 then (if x102001 = 0 then ((qjv.f k x102003).bind fun t103 => (if t103 = true then (if (x102002.size : Int) ≥ 1 then (if (x102002.size : Int) ≤ 200 then ((qkx.f k x102002).bind fun t104 => (some t104)) else (some false)) else (some false)) else (some false))) else (some false)) else (if x29 = 6 then (if x102001 < 0 then (some false) else ((qkw.f k 32).bind fun t105 => (if (wrap64 (Int.tdiv x102001 64)) > (wrap64 (t105 - 1)) then (some false) else (if (Int.tmod x102001 64) > 32 then (some false) else ((qkz.f k x102000 x102001 x102002 x102003).bind fun bt106 => (if bt106.2 = 0 then (none) else (some ((Int.tmod bt106.1 bt106.2) == 0)))))))) else (if x29 = 7 then (if x102001 ≥ (-100000000000) then (some (decide (x102001 ≤ 100000000000))) else (some false)) else (some false)))))
end
def qjk.f (k : Nat) (a0_0 : Int) (a0_1 : Int) (a0_2 : ByteArray) (a0_3 : ByteArray) : Option (Bool) := if a0_0 = 3 then (if a0_0 = 4 then (qjk.j0 k false a0_0 a0_1 a0_2 a0_3) else (qjk.j0 k (a0_3.toList != ([] : List UInt8)) a0_0 a0_1 a0_2 a0_3)) else (if a0_0 = 4 then (qjk.j0 k false a0_0 a0_1 a0_2 a0_3) else (if a0_2.toList = ([] : List UInt8) then (qjk.j0 k (a0_3.toList != ([] : List UInt8)) a0_0 a0_1 a0_2 a0_3) else (qjk.j0 k true a0_0 a0_1 a0_2 a0_3)))
set_option maxHeartbeats 8000000 in
set_option maxRecDepth 100000 in
theorem qjk.calls (k : Nat) (a0_0 : Int) (a0_1 : Int) (a0_2 : ByteArray) (a0_3 : ByteArray) (r : Bool) (w : World) (h : qjk.f k a0_0 a0_1 a0_2 a0_3 = some r) :
  Calls Tryz.prog 46 #[.agg #[.int .i64 a0_0,.int .i64 a0_1,.string a0_2,.string a0_3]] w fun e w' => e = .returned (.bool r) ∧ Below w.heap.size w w' := by
 have hu28 := Tryz.underlying28
 have HB := qq.mk (Below.refl w.heap.size w)
 have H : (if a0_0 = 3 then (if a0_0 = 4 then (qjk.j0 k false a0_0 a0_1 a0_2 a0_3) else (qjk.j0 k (a0_3.toList != ([] : List UInt8)) a0_0 a0_1 a0_2 a0_3)) else (if a0_0 = 4 then (qjk.j0 k false a0_0 a0_1 a0_2 a0_3) else (if a0_2.toList = ([] : List UInt8) then (qjk.j0 k (a0_3.toList != ([] : List UInt8)) a0_0 a0_1 a0_2 a0_3) else (qjk.j0 k true a0_0 a0_1 a0_2 a0_3)))) = some r := h
 clear h
 have HC2 := qq.mk H
 clear H
 go_enter Tryz.func46,Tryz.ntmps46
 go_upto_region 1 with (first | ((with_reducible refine gate_dst (N := 1) rfl ?_);(try (refine gate_guard (by rfl) ?_;dsimp only));refine box_event ?hg (N := 1) ?hd (cs := #[.int .i64 a0_0,.int .i64 a0_1,.string a0_2,.string a0_3]) (t := 28) ?hr ?_;(case hd => rfl);(case hg => rfl);(case hr => first | (go_simp;done) | (go_simp;rfl));intro gb101 hg w3 hbox hb;have n0_ := qq.mk (zv (by repeat (first | (with_reducible first | exact HB.out | apply qj | apply qz | apply qk) | exact HB.out)) hb);have n1_ := qq.mk (hbox);have n2_ := qq.mk ((by rw [hg];exact (zw (by repeat (first | (with_reducible first | exact HB.out | apply qj | apply qz | apply qk) | exact HB.out))) : w.heap.size ≤ gb101));have n3_ := qq.mk ((by rw [hg];exact (zw (by repeat (first | (with_reducible first | exact HB.out | apply qj | apply qz | apply qk) | exact HB.out))) : w.heap.size ≤ gb101));clear HB;have HB := n0_;have BK101 := n1_;have GW101 := n2_;have GE101 := n3_;clear n0_ n1_ n2_ n3_;clear hb hbox hg))
 repeat (go_quiet (first | ((with_reducible refine gate_dst (N := 1) rfl ?_);(try (refine gate_guard (by rfl) ?_;dsimp only));refine box_event ?hg (N := 1) ?hd (cs := #[.int .i64 a0_0,.int .i64 a0_1,.string a0_2,.string a0_3]) (t := 28) ?hr ?_;(case hd => rfl);(case hg => rfl);(case hr => first | (go_simp;done) | (go_simp;rfl));intro gb101 hg w3 hbox hb;have n0_ := qq.mk (zv (by repeat (first | (with_reducible first | exact HB.out | apply qj | apply qz | apply qk) | exact HB.out)) hb);have n1_ := qq.mk (hbox);have n2_ := qq.mk ((by rw [hg];exact (zw (by repeat (first | (with_reducible first | exact HB.out | apply qj | apply qz | apply qk) | exact HB.out))) : w.heap.size ≤ gb101));have n3_ := qq.mk ((by rw [hg];exact (zw (by repeat (first | (with_reducible first | exact HB.out | apply qj | apply qz | apply qk) | exact HB.out))) : w.heap.size ≤ gb101));clear HB;have HB := n0_;have BK101 := n1_;have GW101 := n2_;have GE101 := n3_;clear n0_ n1_ n2_ n3_;clear hb hbox hg));go_upto_region 1 with (first | ((with_reducible refine gate_dst (N := 1) rfl ?_);(try (refine gate_guard (by rfl) ?_;dsimp only));refine box_event ?hg (N := 1) ?hd (cs := #[.int .i64 a0_0,.int .i64 a0_1,.string a0_2,.string a0_3]) (t := 28) ?hr ?_;(case hd => rfl);(case hg => rfl);(case hr => first | (go_simp;done) | (go_simp;rfl));intro gb101 hg w3 hbox hb;have n0_ := qq.mk (zv (by repeat (first | (with_reducible first | exact HB.out | apply qj | apply qz | apply qk) | exact HB.out)) hb);have n1_ := qq.mk (hbox);have n2_ := qq.mk ((by rw [hg];exact (zw (by repeat (first | (with_reducible first | exact HB.out | apply qj | apply qz | apply qk) | exact HB.out))) : w.heap.size ≤ gb101));have n3_ := qq.mk ((by rw [hg];exact (zw (by repeat (first | (with_reducible first | exact HB.out | apply qj | apply qz | apply qk) | exact HB.out))) : w.heap.size ≤ gb101));clear HB;have HB := n0_;have BK101 := n1_;have GW101 := n2_;have GE101 := n3_;clear n0_ n1_ n2_ n3_;clear hb hbox hg)))
 (try simp only [Act.put,List.setIfInBounds_toArray,List.set_cons_zero,List.set_cons_succ])
 go_cut [27] (fun v27 wc => ∃ (kq : Nat) (x27_1 : Bool),v27 = .bool x27_1 ∧ qq (qjk.j0 kq x27_1 a0_0 a0_1 a0_2 a0_3 = some r) ∧ qq (kq ≤ k) ∧ qq (wc.heap[gb101]? = some (.cells #[.int .i64 a0_0,.int .i64 a0_1,.string a0_2,.string a0_3] 28 (0,0))) ∧ qq (Below w.heap.size w wc))
 case first =>
  have H := HC2.out
  clear HC2
  by_cases c4 : a0_0 = 3
  ·rw [if_pos c4] at H
   have c4b0 : (a0_0 == 3) = true := beq_iff_eq.mpr c4
   have c4b1 : (a0_0 != 3) = false := bne_eq_false_iff_eq.mpr c4
   clear c4
   (first | rw [c4b0] | (simp only [i64_w,i32_w];rw [c4b0]) | skip)
   by_cases c5 : a0_0 = 4
   ·rw [if_pos c5] at H
    have c5b0 : (a0_0 == 4) = true := beq_iff_eq.mpr c5
    have c5b1 : (a0_0 != 4) = false := bne_eq_false_iff_eq.mpr c5
    clear c5
    have H' := qq.mk H
    clear H
    have hcz6_0 : w3.cell? ⟨gb101,0,none⟩ = some (.int .i64 a0_0) := (qw BK101.out 0).trans rfl
    have hcz6_1 : w3.cell? ⟨gb101,1,none⟩ = some (.int .i64 a0_1) := (qw BK101.out 1).trans rfl
    have hcz6_2 : w3.cell? ⟨gb101,2,none⟩ = some (.string a0_2) := (qw BK101.out 2).trans rfl
    have hcz6_3 : w3.cell? ⟨gb101,3,none⟩ = some (.string a0_3) := (qw BK101.out 3).trans rfl
    have hfz6_0 := qv BK101.out 0
    have hfz6_1 := qv BK101.out 1
    have hfz6_2 := qv BK101.out 2
    have hfz6_3 := qv BK101.out 3
    go_wp2
    repeat (go_quiet (fail);try go_wp2)
    go_meet
    case rel => exact ⟨_,(false),(by first | rfl | (simp;done) | (simp [*];done) | (generalize ByteArray.toList _ = l_;cases l_ <;> first | rfl | (simp;done))),H',⟨by first | omega | exact Nat.le_refl _⟩,⟨by (with_reducible repeat (first | refine zz ?_ _ | refine zj ?_ | refine zq ?_ _));exact BK101.out⟩,⟨by repeat (first | (with_reducible first | exact HB.out | apply qj | apply qz | apply qk | refine qx ?_ GE101.out) | exact HB.out)⟩⟩
   ·rw [if_neg c5] at H
    have c5b0 : (a0_0 == 4) = false := beq_eq_false_iff_ne.mpr c5
    have c5b1 : (a0_0 != 4) = true := bne_iff_ne.mpr c5
    have H' := qq.mk H
    clear H
    have hcz7_0 : w3.cell? ⟨gb101,0,none⟩ = some (.int .i64 a0_0) := (qw BK101.out 0).trans rfl
    have hcz7_1 : w3.cell? ⟨gb101,1,none⟩ = some (.int .i64 a0_1) := (qw BK101.out 1).trans rfl
    have hcz7_2 : w3.cell? ⟨gb101,2,none⟩ = some (.string a0_2) := (qw BK101.out 2).trans rfl
    have hcz7_3 : w3.cell? ⟨gb101,3,none⟩ = some (.string a0_3) := (qw BK101.out 3).trans rfl
    have hfz7_0 := qv BK101.out 0
    have hfz7_1 := qv BK101.out 1
    have hfz7_2 := qv BK101.out 2
    have hfz7_3 := qv BK101.out 3
    go_wp2
    repeat (go_quiet (fail);try go_wp2)
    go_meet
    case rel => exact ⟨_,((a0_3.toList != ([] : List UInt8))),(by first | rfl | (simp;done) | (simp [*];done) | (generalize ByteArray.toList _ = l_;cases l_ <;> first | rfl | (simp;done))),H',⟨by first | omega | exact Nat.le_refl _⟩,⟨by (with_reducible repeat (first | refine zz ?_ _ | refine zj ?_ | refine zq ?_ _));exact BK101.out⟩,⟨by repeat (first | (with_reducible first | exact HB.out | apply qj | apply qz | apply qk | refine qx ?_ GE101.out) | exact HB.out)⟩⟩
  ·rw [if_neg c4] at H
   have c4b0 : (a0_0 == 3) = false := beq_eq_false_iff_ne.mpr c4
   have c4b1 : (a0_0 != 3) = true := bne_iff_ne.mpr c4
   (first | rw [c4b0] | (simp only [i64_w,i32_w];rw [c4b0]) | skip)
   by_cases c8 : a0_0 = 4
   ·rw [if_pos c8] at H
    have c8b0 : (a0_0 == 4) = true := beq_iff_eq.mpr c8
    have c8b1 : (a0_0 != 4) = false := bne_eq_false_iff_eq.mpr c8
    clear c8
    have H' := qq.mk H
    clear H
    have hcz9_0 : w3.cell? ⟨gb101,0,none⟩ = some (.int .i64 a0_0) := (qw BK101.out 0).trans rfl
    have hcz9_1 : w3.cell? ⟨gb101,1,none⟩ = some (.int .i64 a0_1) := (qw BK101.out 1).trans rfl
    have hcz9_2 : w3.cell? ⟨gb101,2,none⟩ = some (.string a0_2) := (qw BK101.out 2).trans rfl
    have hcz9_3 : w3.cell? ⟨gb101,3,none⟩ = some (.string a0_3) := (qw BK101.out 3).trans rfl
    have hfz9_0 := qv BK101.out 0
    have hfz9_1 := qv BK101.out 1
    have hfz9_2 := qv BK101.out 2
    have hfz9_3 := qv BK101.out 3
    go_wp2
    repeat (go_quiet (fail);try go_wp2)
    go_meet
    case rel => exact ⟨_,(false),(by first | rfl | (simp;done) | (simp [*];done) | (generalize ByteArray.toList _ = l_;cases l_ <;> first | rfl | (simp;done))),H',⟨by first | omega | exact Nat.le_refl _⟩,⟨by (with_reducible repeat (first | refine zz ?_ _ | refine zj ?_ | refine zq ?_ _));exact BK101.out⟩,⟨by repeat (first | (with_reducible first | exact HB.out | apply qj | apply qz | apply qk | refine qx ?_ GE101.out) | exact HB.out)⟩⟩
   ·rw [if_neg c8] at H
    have c8b0 : (a0_0 == 4) = false := beq_eq_false_iff_ne.mpr c8
    have c8b1 : (a0_0 != 4) = true := bne_iff_ne.mpr c8
    by_cases c10 : a0_2.toList = ([] : List UInt8)
    ·rw [if_pos c10] at H
     have c10b0 : (a0_2.toList == ([] : List UInt8)) = true := beq_iff_eq.mpr c10
     have c10b1 : (a0_2.toList != ([] : List UInt8)) = false := bne_eq_false_iff_eq.mpr c10
     clear c10
     have H' := qq.mk H
     clear H
     have hcz11_0 : w3.cell? ⟨gb101,0,none⟩ = some (.int .i64 a0_0) := (qw BK101.out 0).trans rfl
     have hcz11_1 : w3.cell? ⟨gb101,1,none⟩ = some (.int .i64 a0_1) := (qw BK101.out 1).trans rfl
     have hcz11_2 : w3.cell? ⟨gb101,2,none⟩ = some (.string a0_2) := (qw BK101.out 2).trans rfl
     have hcz11_3 : w3.cell? ⟨gb101,3,none⟩ = some (.string a0_3) := (qw BK101.out 3).trans rfl
     have hfz11_0 := qv BK101.out 0
     have hfz11_1 := qv BK101.out 1
     have hfz11_2 := qv BK101.out 2
     have hfz11_3 := qv BK101.out 3
     go_wp2
     repeat (go_quiet (fail);try go_wp2)
     go_meet
     case rel => exact ⟨_,((a0_3.toList != ([] : List UInt8))),(by first | rfl | (simp;done) | (simp [*];done) | (generalize ByteArray.toList _ = l_;cases l_ <;> first | rfl | (simp;done))),H',⟨by first | omega | exact Nat.le_refl _⟩,⟨by (with_reducible repeat (first | refine zz ?_ _ | refine zj ?_ | refine zq ?_ _));exact BK101.out⟩,⟨by repeat (first | (with_reducible first | exact HB.out | apply qj | apply qz | apply qk | refine qx ?_ GE101.out) | exact HB.out)⟩⟩
    ·rw [if_neg c10] at H
     have c10b0 : (a0_2.toList == ([] : List UInt8)) = false := beq_eq_false_iff_ne.mpr c10
     have c10b1 : (a0_2.toList != ([] : List UInt8)) = true := bne_iff_ne.mpr c10
     have H' := qq.mk H
     clear H
     have hcz12_0 : w3.cell? ⟨gb101,0,none⟩ = some (.int .i64 a0_0) := (qw BK101.out 0).trans rfl
     have hcz12_1 : w3.cell? ⟨gb101,1,none⟩ = some (.int .i64 a0_1) := (qw BK101.out 1).trans rfl
     have hcz12_2 : w3.cell? ⟨gb101,2,none⟩ = some (.string a0_2) := (qw BK101.out 2).trans rfl
     have hcz12_3 : w3.cell? ⟨gb101,3,none⟩ = some (.string a0_3) := (qw BK101.out 3).trans rfl
     have hfz12_0 := qv BK101.out 0
     have hfz12_1 := qv BK101.out 1
     have hfz12_2 := qv BK101.out 2
     have hfz12_3 := qv BK101.out 3
     go_wp2
     repeat (go_quiet (fail);try go_wp2)
     go_meet
     case rel => exact ⟨_,(true),(by first | rfl | (simp;done) | (simp [*];done) | (generalize ByteArray.toList _ = l_;cases l_ <;> first | rfl | (simp;done))),H',⟨by first | omega | exact Nat.le_refl _⟩,⟨by (with_reducible repeat (first | refine zz ?_ _ | refine zj ?_ | refine zq ?_ _));exact BK101.out⟩,⟨by repeat (first | (with_reducible first | exact HB.out | apply qj | apply qz | apply qk | refine qx ?_ GE101.out) | exact HB.out)⟩⟩
 case rest =>
  clear HC2
  try clear c1
  try clear p2
  try clear c4
  try clear c4b0
  try clear c4b1
  try clear c5
  try clear c5b0
  try clear c5b1
  try clear c8
  try clear c8b0
  try clear c8b1
  try clear c10
  try clear c10b0
  try clear c10b1
  try clear hcz11_0
  try clear hcz11_1
  try clear hcz11_2
  try clear hcz11_3
  try clear hcz12_0
  try clear hcz12_1
  try clear hcz12_2
  try clear hcz12_3
  try clear hcz6_0
  try clear hcz6_1
  try clear hcz6_2
  try clear hcz6_3
  try clear hcz7_0
  try clear hcz7_1
  try clear hcz7_2
  try clear hcz7_3
  try clear hcz9_0
  try clear hcz9_1
  try clear hcz9_2
  try clear hcz9_3
  try clear hfz11_0
  try clear hfz11_1
  try clear hfz11_2
  try clear hfz11_3
  try clear hfz12_0
  try clear hfz12_1
  try clear hfz12_2
  try clear hfz12_3
  try clear hfz6_0
  try clear hfz6_1
  try clear hfz6_2
  try clear hfz6_3
  try clear hfz7_0
  try clear hfz7_1
  try clear hfz7_2
  try clear hfz7_3
  try clear hfz9_0
  try clear hfz9_1
  try clear hfz9_2
  try clear hfz9_3
  obtain ⟨kq,x27_1,rfl,HA,HJ1,BK101,HB⟩ := hcut
  cases kq with
  | zero => exact absurd HA.out (by simp [qjk.j0])
  | succ kj1 =>
   have H := HA.out
   clear HA
   simp only [qjk.j0] at H
   by_cases c13 : x27_1 = true
   ·subst c13
    have H1 : (some false) = some r := by rw [if_pos rfl] at H;exact H
    clear H
    have H := H1
    clear H1
    obtain rfl := Option.some.inj H
    go_wp2
    repeat (go_quiet (fail);try go_wp2)
    go_ret
    exact ⟨by first | rfl | (simp [*,jk,jj] <;> rfl),by repeat (first | (with_reducible first | exact HB.out | apply qj | apply qz | apply qk | refine qx ?_ GE101.out) | exact HB.out)⟩
   ·replace c13 := Bool.eq_false_iff.mpr c13
    subst c13
    have H1 : (if a0_0 = 1 then (if a0_1 = 0 then (some true) else (some (a0_1 == 1))) else (if a0_0 = 2 then (qjk.j1 kj1 a0_0 (a0_0 == 2) a0_0 a0_1 a0_2 a0_3) else (qjk.j1 kj1 a0_0 (a0_0 == 5) a0_0 a0_1 a0_2 a0_3))) = some r := by rw [if_neg (show ¬ (false = true) by decide)] at H;exact H
    clear H
    have H := H1
    clear H1
    by_cases c14 : a0_0 = 1
    ·rw [if_pos c14] at H
     have c14b0 : (a0_0 == 1) = true := beq_iff_eq.mpr c14
     have c14b1 : (a0_0 != 1) = false := bne_eq_false_iff_eq.mpr c14
     clear c14
     by_cases c15 : a0_1 = 0
     ·rw [if_pos c15] at H
      have c15b0 : (a0_1 == 0) = true := beq_iff_eq.mpr c15
      have c15b1 : (a0_1 != 0) = false := bne_eq_false_iff_eq.mpr c15
      clear c15
      obtain rfl := Option.some.inj H
      have hcz16_0 : wc.cell? ⟨gb101,0,none⟩ = some (.int .i64 a0_0) := (qw BK101.out 0).trans rfl
      have hcz16_1 : wc.cell? ⟨gb101,1,none⟩ = some (.int .i64 a0_1) := (qw BK101.out 1).trans rfl
      have hcz16_2 : wc.cell? ⟨gb101,2,none⟩ = some (.string a0_2) := (qw BK101.out 2).trans rfl
      have hcz16_3 : wc.cell? ⟨gb101,3,none⟩ = some (.string a0_3) := (qw BK101.out 3).trans rfl
      have hfz16_0 := qv BK101.out 0
      have hfz16_1 := qv BK101.out 1
      have hfz16_2 := qv BK101.out 2
      have hfz16_3 := qv BK101.out 3
      go_wp2
      repeat (go_quiet (fail);try go_wp2)
      go_ret
      exact ⟨by first | rfl | (simp [*,jk,jj] <;> rfl),by repeat (first | (with_reducible first | exact HB.out | apply qj | apply qz | apply qk | refine qx ?_ GE101.out) | exact HB.out)⟩
     ·rw [if_neg c15] at H
      have c15b0 : (a0_1 == 0) = false := beq_eq_false_iff_ne.mpr c15
      have c15b1 : (a0_1 != 0) = true := bne_iff_ne.mpr c15
      obtain rfl := Option.some.inj H
      have hcz17_0 : wc.cell? ⟨gb101,0,none⟩ = some (.int .i64 a0_0) := (qw BK101.out 0).trans rfl
      have hcz17_1 : wc.cell? ⟨gb101,1,none⟩ = some (.int .i64 a0_1) := (qw BK101.out 1).trans rfl
      have hcz17_2 : wc.cell? ⟨gb101,2,none⟩ = some (.string a0_2) := (qw BK101.out 2).trans rfl
      have hcz17_3 : wc.cell? ⟨gb101,3,none⟩ = some (.string a0_3) := (qw BK101.out 3).trans rfl
      have hfz17_0 := qv BK101.out 0
      have hfz17_1 := qv BK101.out 1
      have hfz17_2 := qv BK101.out 2
      have hfz17_3 := qv BK101.out 3
      go_wp2
      repeat (go_quiet (fail);try go_wp2)
      go_ret
      exact ⟨by first | rfl | (simp [*,jk,jj] <;> rfl),by repeat (first | (with_reducible first | exact HB.out | apply qj | apply qz | apply qk | refine qx ?_ GE101.out) | exact HB.out)⟩
    ·rw [if_neg c14] at H
     have c14b0 : (a0_0 == 1) = false := beq_eq_false_iff_ne.mpr c14
     have c14b1 : (a0_0 != 1) = true := bne_iff_ne.mpr c14
     have HC18 := qq.mk H
     clear H
     have hcz19_0 : wc.cell? ⟨gb101,0,none⟩ = some (.int .i64 a0_0) := (qw BK101.out 0).trans rfl
     have hcz19_1 : wc.cell? ⟨gb101,1,none⟩ = some (.int .i64 a0_1) := (qw BK101.out 1).trans rfl
     have hcz19_2 : wc.cell? ⟨gb101,2,none⟩ = some (.string a0_2) := (qw BK101.out 2).trans rfl
     have hcz19_3 : wc.cell? ⟨gb101,3,none⟩ = some (.string a0_3) := (qw BK101.out 3).trans rfl
     have hfz19_0 := qv BK101.out 0
     have hfz19_1 := qv BK101.out 1
     have hfz19_2 := qv BK101.out 2
     have hfz19_3 := qv BK101.out 3
     go_upto_if 40 with (fail)
     repeat (go_quiet (fail);go_upto_if 40 with (fail))
     go_cut [40] (fun v40 wc => ∃ (kq : Nat) (x40_17 : Bool),v40 = .bool x40_17 ∧ qq (qjk.j1 kq a0_0 x40_17 a0_0 a0_1 a0_2 a0_3 = some r) ∧ qq (kq ≤ kj1) ∧ qq (wc.heap[gb101]? = some (.cells #[.int .i64 a0_0,.int .i64 a0_1,.string a0_2,.string a0_3] 28 (0,0))) ∧ qq (Below w.heap.size w wc))
     case first =>
      have H := HC18.out
      clear HC18
      by_cases c20 : a0_0 = 2
      ·rw [if_pos c20] at H
       have c20b0 : (a0_0 == 2) = true := beq_iff_eq.mpr c20
       have c20b1 : (a0_0 != 2) = false := bne_eq_false_iff_eq.mpr c20
       clear c20
       (first | rw [c20b0] | (simp only [i64_w,i32_w];rw [c20b0]) | skip)
       have H' := qq.mk H
       clear H
       go_wp2
       repeat (go_quiet (fail);try go_wp2)
       go_meet
       case rel => exact ⟨_,((a0_0 == 2)),(by first | rfl | (simp;done) | (simp [*];done) | (generalize ByteArray.toList _ = l_;cases l_ <;> first | rfl | (simp;done))),H',⟨by have := HJ1.out;first | omega | exact Nat.le_refl _⟩,⟨by (with_reducible repeat (first | refine zz ?_ _ | refine zj ?_ | refine zq ?_ _));exact BK101.out⟩,⟨by repeat (first | (with_reducible first | exact HB.out | apply qj | apply qz | apply qk | refine qx ?_ GE101.out) | exact HB.out)⟩⟩
      ·rw [if_neg c20] at H
       have c20b0 : (a0_0 == 2) = false := beq_eq_false_iff_ne.mpr c20
       have c20b1 : (a0_0 != 2) = true := bne_iff_ne.mpr c20
       (first | rw [c20b0] | (simp only [i64_w,i32_w];rw [c20b0]) | skip)
       have H' := qq.mk H
       clear H
       go_wp2
       repeat (go_quiet (fail);try go_wp2)
       go_meet
       case rel => exact ⟨_,((a0_0 == 5)),(by first | rfl | (simp;done) | (simp [*];done) | (generalize ByteArray.toList _ = l_;cases l_ <;> first | rfl | (simp;done))),H',⟨by have := HJ1.out;first | omega | exact Nat.le_refl _⟩,⟨by (with_reducible repeat (first | refine zz ?_ _ | refine zj ?_ | refine zq ?_ _));exact BK101.out⟩,⟨by repeat (first | (with_reducible first | exact HB.out | apply qj | apply qz | apply qk | refine qx ?_ GE101.out) | exact HB.out)⟩⟩
     case rest =>
      clear HC18
      try clear c1
      try clear c2
      try clear p2
      try clear c4
      try clear c4b0
      try clear c4b1
      try clear c5
      try clear c5b0
      try clear c5b1
      try clear c8
      try clear c8b0
      try clear c8b1
      try clear c10
      try clear c10b0
      try clear c10b1
      try clear c13
      try clear c14
      try clear c14b0
      try clear c14b1
      try clear c15
      try clear c15b0
      try clear c15b1
      try clear c20
      try clear c20b0
      try clear c20b1
      try clear hcz11_0
      try clear hcz11_1
      try clear hcz11_2
      try clear hcz11_3
      try clear hcz12_0
      try clear hcz12_1
      try clear hcz12_2
      try clear hcz12_3
      try clear hcz16_0
      try clear hcz16_1
      try clear hcz16_2
      try clear hcz16_3
      try clear hcz17_0
      try clear hcz17_1
      try clear hcz17_2
      try clear hcz17_3
      try clear hcz19_0
      try clear hcz19_1
      try clear hcz19_2
      try clear hcz19_3
      try clear hcz6_0
      try clear hcz6_1
      try clear hcz6_2
      try clear hcz6_3
      try clear hcz7_0
      try clear hcz7_1
      try clear hcz7_2
      try clear hcz7_3
      try clear hcz9_0
      try clear hcz9_1
      try clear hcz9_2
      try clear hcz9_3
      try clear hfz11_0
      try clear hfz11_1
      try clear hfz11_2
      try clear hfz11_3
      try clear hfz12_0
      try clear hfz12_1
      try clear hfz12_2
      try clear hfz12_3
      try clear hfz16_0
      try clear hfz16_1
      try clear hfz16_2
      try clear hfz16_3
      try clear hfz17_0
      try clear hfz17_1
      try clear hfz17_2
      try clear hfz17_3
      try clear hfz19_0
      try clear hfz19_1
      try clear hfz19_2
      try clear hfz19_3
      try clear hfz6_0
      try clear hfz6_1
      try clear hfz6_2
      try clear hfz6_3
      try clear hfz7_0
      try clear hfz7_1
      try clear hfz7_2
      try clear hfz7_3
      try clear hfz9_0
      try clear hfz9_1
      try clear hfz9_2
      try clear hfz9_3
      try clear p2
      obtain ⟨kq,x40_17,rfl,HA,HJ17,BK101,HB⟩ := hcut
      cases kq with
      | zero => exact absurd HA.out (by simp [qjk.j1])
      | succ kj17 =>
       have H := HA.out
       clear HA
       simp only [qjk.j1] at H
       by_cases c21 : x40_17 = true
       ·subst c21
        have H1 : (some true) = some r := by rw [if_pos rfl] at H;exact H
        clear H
        have H := H1
        clear H1
        obtain rfl := Option.some.inj H
        go_wp2
        repeat (go_quiet (fail);try go_wp2)
        go_ret
        exact ⟨by first | rfl | (simp [*,jk,jj] <;> rfl),by repeat (first | (with_reducible first | exact HB.out | apply qj | apply qz | apply qk | refine qx ?_ GE101.out) | exact HB.out)⟩
       ·replace c21 := Bool.eq_false_iff.mpr c21
        subst c21
        have H1 : (if a0_0 = 3 then (if a0_1 = 0 then (if (a0_2.size : Int) ≤ 200 then ((qkx.f kj17 a0_2).bind fun t102 => (some t102)) else (some false)) else (some false)) else (if a0_0 = 4 then (if a0_1 = 0 then ((qjv.f kj17 a0_3).bind fun t103 => (if t103 = true then (if (a0_2.size : Int) ≥ 1 then (if (a0_2.size : Int) ≤ 200 then ((qkx.f kj17 a0_2).bind fun t104 => (some t104)) else (some false)) else (some false)) else (some false))) else (some false)) else (if a0_0 = 6 then (if a0_1 < 0 then (some false) else ((qkw.f kj17 32).bind fun t105 => (if (wrap64 (Int.tdiv a0_1 64)) > (wrap64 (t105 - 1)) then (some false) else (if (Int.tmod a0_1 64) > 32 then (some false) else ((qkz.f kj17 a0_0 a0_1 a0_2 a0_3).bind fun bt106 => (if bt106.2 = 0 then (none) else (some ((Int.tmod bt106.1 bt106.2) == 0)))))))) else (if a0_0 = 7 then (if a0_1 ≥ (-100000000000) then (some (decide (a0_1 ≤ 100000000000))) else (some false)) else (some false))))) = some r := by rw [if_neg (show ¬ (false = true) by decide)] at H;exact H
        clear H
        have H := H1
        clear H1
        by_cases c22 : a0_0 = 3
        ·rw [if_pos c22] at H
         have c22b0 : (a0_0 == 3) = true := beq_iff_eq.mpr c22
         have c22b1 : (a0_0 != 3) = false := bne_eq_false_iff_eq.mpr c22
         clear c22
         by_cases c23 : a0_1 = 0
         ·rw [if_pos c23] at H
          have c23b0 : (a0_1 == 0) = true := beq_iff_eq.mpr c23
          have c23b1 : (a0_1 != 0) = false := bne_eq_false_iff_eq.mpr c23
          clear c23
          by_cases c24 : (a0_2.size : Int) ≤ 200
          ·rw [if_pos c24] at H
           have c24b0 : decide ((a0_2.size : Int) ≤ 200) = true := decide_eq_true c24
           have c24b1 : decide (a0_2.size ≤ 200) = true := decide_eq_true (by omega)
           clear c24
           replace H := Option.bind_eq_some_iff.mp H
           obtain ⟨t102,A250,H⟩ := H
           replace H : (some t102) = some r := H
           have A25 := qq.mk A250
           clear A250
           obtain rfl := Option.some.inj H
           have hcz26_0 : wc.cell? ⟨gb101,0,none⟩ = some (.int .i64 a0_0) := (qw BK101.out 0).trans rfl
           have hcz26_1 : wc.cell? ⟨gb101,1,none⟩ = some (.int .i64 a0_1) := (qw BK101.out 1).trans rfl
           have hcz26_2 : wc.cell? ⟨gb101,2,none⟩ = some (.string a0_2) := (qw BK101.out 2).trans rfl
           have hcz26_3 : wc.cell? ⟨gb101,3,none⟩ = some (.string a0_3) := (qw BK101.out 3).trans rfl
           have hfz26_0 := qv BK101.out 0
           have hfz26_1 := qv BK101.out 1
           have hfz26_2 := qv BK101.out 2
           have hfz26_3 := qv BK101.out 3
           go_wp2_with (first | (go_at_call 72;(with_reducible refine (qkx.calls kj17 a0_2 t102 _ A25.out).mono ?_);rintro e w' ⟨rfl,⟨nd,rfl⟩⟩;(try first | exact ⟨rfl,_,World.drewN_drewN _ _ _⟩ | exact ⟨rfl,_,Eq.trans (World.drewN_drewN _ _ _) (congrArg (World.drewN _) (Nat.add_assoc _ _ _))⟩)))
           repeat (go_quiet (first | (go_at_call 72;(with_reducible refine (qkx.calls kj17 a0_2 t102 _ A25.out).mono ?_);rintro e w' ⟨rfl,⟨nd,rfl⟩⟩;(try first | exact ⟨rfl,_,World.drewN_drewN _ _ _⟩ | exact ⟨rfl,_,Eq.trans (World.drewN_drewN _ _ _) (congrArg (World.drewN _) (Nat.add_assoc _ _ _))⟩)));try go_wp2_with (first | (go_at_call 72;(with_reducible refine (qkx.calls kj17 a0_2 t102 _ A25.out).mono ?_);rintro e w' ⟨rfl,⟨nd,rfl⟩⟩;(try first | exact ⟨rfl,_,World.drewN_drewN _ _ _⟩ | exact ⟨rfl,_,Eq.trans (World.drewN_drewN _ _ _) (congrArg (World.drewN _) (Nat.add_assoc _ _ _))⟩))))
           go_ret
           exact ⟨by first | rfl | (simp [*,jk,jj] <;> rfl),by repeat (first | (with_reducible first | exact HB.out | apply qj | apply qz | apply qk | refine qx ?_ GE101.out) | exact HB.out)⟩
          ·rw [if_neg c24] at H
           have c24b0 : decide ((a0_2.size : Int) ≤ 200) = false := decide_eq_false c24
           have c24b1 : decide (a0_2.size ≤ 200) = false := decide_eq_false (by omega)
           clear c24
           obtain rfl := Option.some.inj H
           have hcz27_0 : wc.cell? ⟨gb101,0,none⟩ = some (.int .i64 a0_0) := (qw BK101.out 0).trans rfl
           have hcz27_1 : wc.cell? ⟨gb101,1,none⟩ = some (.int .i64 a0_1) := (qw BK101.out 1).trans rfl
           have hcz27_2 : wc.cell? ⟨gb101,2,none⟩ = some (.string a0_2) := (qw BK101.out 2).trans rfl
           have hcz27_3 : wc.cell? ⟨gb101,3,none⟩ = some (.string a0_3) := (qw BK101.out 3).trans rfl
           have hfz27_0 := qv BK101.out 0
           have hfz27_1 := qv BK101.out 1
           have hfz27_2 := qv BK101.out 2
           have hfz27_3 := qv BK101.out 3
           go_wp2
           repeat (go_quiet (fail);try go_wp2)
           go_ret
           exact ⟨by first | rfl | (simp [*,jk,jj] <;> rfl),by repeat (first | (with_reducible first | exact HB.out | apply qj | apply qz | apply qk | refine qx ?_ GE101.out) | exact HB.out)⟩
         ·rw [if_neg c23] at H
          have c23b0 : (a0_1 == 0) = false := beq_eq_false_iff_ne.mpr c23
          have c23b1 : (a0_1 != 0) = true := bne_iff_ne.mpr c23
          obtain rfl := Option.some.inj H
          have hcz28_0 : wc.cell? ⟨gb101,0,none⟩ = some (.int .i64 a0_0) := (qw BK101.out 0).trans rfl
          have hcz28_1 : wc.cell? ⟨gb101,1,none⟩ = some (.int .i64 a0_1) := (qw BK101.out 1).trans rfl
          have hcz28_2 : wc.cell? ⟨gb101,2,none⟩ = some (.string a0_2) := (qw BK101.out 2).trans rfl
          have hcz28_3 : wc.cell? ⟨gb101,3,none⟩ = some (.string a0_3) := (qw BK101.out 3).trans rfl
          have hfz28_0 := qv BK101.out 0
          have hfz28_1 := qv BK101.out 1
          have hfz28_2 := qv BK101.out 2
          have hfz28_3 := qv BK101.out 3
          go_wp2
          repeat (go_quiet (fail);try go_wp2)
          go_ret
          exact ⟨by first | rfl | (simp [*,jk,jj] <;> rfl),by repeat (first | (with_reducible first | exact HB.out | apply qj | apply qz | apply qk | refine qx ?_ GE101.out) | exact HB.out)⟩
        ·rw [if_neg c22] at H
         have c22b0 : (a0_0 == 3) = false := beq_eq_false_iff_ne.mpr c22
         have c22b1 : (a0_0 != 3) = true := bne_iff_ne.mpr c22
         by_cases c29 : a0_0 = 4
         ·rw [if_pos c29] at H
          have c29b0 : (a0_0 == 4) = true := beq_iff_eq.mpr c29
          have c29b1 : (a0_0 != 4) = false := bne_eq_false_iff_eq.mpr c29
          clear c29
          by_cases c30 : a0_1 = 0
          ·rw [if_pos c30] at H
           have c30b0 : (a0_1 == 0) = true := beq_iff_eq.mpr c30
           have c30b1 : (a0_1 != 0) = false := bne_eq_false_iff_eq.mpr c30
           clear c30
           replace H := Option.bind_eq_some_iff.mp H
           obtain ⟨t103,A310,H⟩ := H
           replace H : (if t103 = true then (if (a0_2.size : Int) ≥ 1 then (if (a0_2.size : Int) ≤ 200 then ((qkx.f kj17 a0_2).bind fun t104 => (some t104)) else (some false)) else (some false)) else (some false)) = some r := H
           have A31 := qq.mk A310
           clear A310
           by_cases c32 : t103 = true
           ·subst c32
            have H1 : (if (a0_2.size : Int) ≥ 1 then (if (a0_2.size : Int) ≤ 200 then ((qkx.f kj17 a0_2).bind fun t104 => (some t104)) else (some false)) else (some false)) = some r := by rw [if_pos rfl] at H;exact H
            clear H
            have H := H1
            clear H1
            by_cases c33 : (a0_2.size : Int) ≥ 1
            ·rw [if_pos c33] at H
             have c33b0 : decide (1 ≤ (a0_2.size : Int)) = true := decide_eq_true c33
             have c33b1 : decide (1 ≤ a0_2.size) = true := decide_eq_true (by omega)
             clear c33
             by_cases c34 : (a0_2.size : Int) ≤ 200
             ·rw [if_pos c34] at H
              have c34b0 : decide ((a0_2.size : Int) ≤ 200) = true := decide_eq_true c34
              have c34b1 : decide (a0_2.size ≤ 200) = true := decide_eq_true (by omega)
              clear c34
              replace H := Option.bind_eq_some_iff.mp H
              obtain ⟨t104,A350,H⟩ := H
              replace H : (some t104) = some r := H
              have A35 := qq.mk A350
              clear A350
              obtain rfl := Option.some.inj H
              have hcz36_0 : wc.cell? ⟨gb101,0,none⟩ = some (.int .i64 a0_0) := (qw BK101.out 0).trans rfl
              have hcz36_1 : wc.cell? ⟨gb101,1,none⟩ = some (.int .i64 a0_1) := (qw BK101.out 1).trans rfl
              have hcz36_2 : wc.cell? ⟨gb101,2,none⟩ = some (.string a0_2) := (qw BK101.out 2).trans rfl
              have hcz36_3 : wc.cell? ⟨gb101,3,none⟩ = some (.string a0_3) := (qw BK101.out 3).trans rfl
              have hfz36_0 := qv BK101.out 0
              have hfz36_1 := qv BK101.out 1
              have hfz36_2 := qv BK101.out 2
              have hfz36_3 := qv BK101.out 3
              go_wp2_with (first | (go_at_call 45;(with_reducible refine (qjv.calls kj17 a0_3 true _ A31.out).mono ?_);rintro e w' ⟨rfl,⟨nd,rfl⟩⟩;(try first | exact ⟨rfl,_,World.drewN_drewN _ _ _⟩ | exact ⟨rfl,_,Eq.trans (World.drewN_drewN _ _ _) (congrArg (World.drewN _) (Nat.add_assoc _ _ _))⟩)) | (go_at_call 72;(with_reducible refine (qkx.calls kj17 a0_2 t104 _ A35.out).mono ?_);rintro e w' ⟨rfl,⟨nd,rfl⟩⟩;(try first | exact ⟨rfl,_,World.drewN_drewN _ _ _⟩ | exact ⟨rfl,_,Eq.trans (World.drewN_drewN _ _ _) (congrArg (World.drewN _) (Nat.add_assoc _ _ _))⟩)))
              repeat (go_quiet (first | (go_at_call 45;(with_reducible refine (qjv.calls kj17 a0_3 true _ A31.out).mono ?_);rintro e w' ⟨rfl,⟨nd,rfl⟩⟩;(try first | exact ⟨rfl,_,World.drewN_drewN _ _ _⟩ | exact ⟨rfl,_,Eq.trans (World.drewN_drewN _ _ _) (congrArg (World.drewN _) (Nat.add_assoc _ _ _))⟩)) | (go_at_call 72;(with_reducible refine (qkx.calls kj17 a0_2 t104 _ A35.out).mono ?_);rintro e w' ⟨rfl,⟨nd,rfl⟩⟩;(try first | exact ⟨rfl,_,World.drewN_drewN _ _ _⟩ | exact ⟨rfl,_,Eq.trans (World.drewN_drewN _ _ _) (congrArg (World.drewN _) (Nat.add_assoc _ _ _))⟩)));try go_wp2_with (first | (go_at_call 45;(with_reducible refine (qjv.calls kj17 a0_3 true _ A31.out).mono ?_);rintro e w' ⟨rfl,⟨nd,rfl⟩⟩;(try first | exact ⟨rfl,_,World.drewN_drewN _ _ _⟩ | exact ⟨rfl,_,Eq.trans (World.drewN_drewN _ _ _) (congrArg (World.drewN _) (Nat.add_assoc _ _ _))⟩)) | (go_at_call 72;(with_reducible refine (qkx.calls kj17 a0_2 t104 _ A35.out).mono ?_);rintro e w' ⟨rfl,⟨nd,rfl⟩⟩;(try first | exact ⟨rfl,_,World.drewN_drewN _ _ _⟩ | exact ⟨rfl,_,Eq.trans (World.drewN_drewN _ _ _) (congrArg (World.drewN _) (Nat.add_assoc _ _ _))⟩))))
              go_ret
              exact ⟨by first | rfl | (simp [*,jk,jj] <;> rfl),by repeat (first | (with_reducible first | exact HB.out | apply qj | apply qz | apply qk | refine qx ?_ GE101.out) | exact HB.out)⟩
             ·rw [if_neg c34] at H
              have c34b0 : decide ((a0_2.size : Int) ≤ 200) = false := decide_eq_false c34
              have c34b1 : decide (a0_2.size ≤ 200) = false := decide_eq_false (by omega)
              clear c34
              obtain rfl := Option.some.inj H
              have hcz37_0 : wc.cell? ⟨gb101,0,none⟩ = some (.int .i64 a0_0) := (qw BK101.out 0).trans rfl
              have hcz37_1 : wc.cell? ⟨gb101,1,none⟩ = some (.int .i64 a0_1) := (qw BK101.out 1).trans rfl
              have hcz37_2 : wc.cell? ⟨gb101,2,none⟩ = some (.string a0_2) := (qw BK101.out 2).trans rfl
              have hcz37_3 : wc.cell? ⟨gb101,3,none⟩ = some (.string a0_3) := (qw BK101.out 3).trans rfl
              have hfz37_0 := qv BK101.out 0
              have hfz37_1 := qv BK101.out 1
              have hfz37_2 := qv BK101.out 2
              have hfz37_3 := qv BK101.out 3
              go_wp2_with (first | (go_at_call 45;(with_reducible refine (qjv.calls kj17 a0_3 true _ A31.out).mono ?_);rintro e w' ⟨rfl,⟨nd,rfl⟩⟩;(try first | exact ⟨rfl,_,World.drewN_drewN _ _ _⟩ | exact ⟨rfl,_,Eq.trans (World.drewN_drewN _ _ _) (congrArg (World.drewN _) (Nat.add_assoc _ _ _))⟩)))
              repeat (go_quiet (first | (go_at_call 45;(with_reducible refine (qjv.calls kj17 a0_3 true _ A31.out).mono ?_);rintro e w' ⟨rfl,⟨nd,rfl⟩⟩;(try first | exact ⟨rfl,_,World.drewN_drewN _ _ _⟩ | exact ⟨rfl,_,Eq.trans (World.drewN_drewN _ _ _) (congrArg (World.drewN _) (Nat.add_assoc _ _ _))⟩)));try go_wp2_with (first | (go_at_call 45;(with_reducible refine (qjv.calls kj17 a0_3 true _ A31.out).mono ?_);rintro e w' ⟨rfl,⟨nd,rfl⟩⟩;(try first | exact ⟨rfl,_,World.drewN_drewN _ _ _⟩ | exact ⟨rfl,_,Eq.trans (World.drewN_drewN _ _ _) (congrArg (World.drewN _) (Nat.add_assoc _ _ _))⟩))))
              go_ret
              exact ⟨by first | rfl | (simp [*,jk,jj] <;> rfl),by repeat (first | (with_reducible first | exact HB.out | apply qj | apply qz | apply qk | refine qx ?_ GE101.out) | exact HB.out)⟩
            ·rw [if_neg c33] at H
             have c33b0 : decide (1 ≤ (a0_2.size : Int)) = false := decide_eq_false c33
             have c33b1 : decide (1 ≤ a0_2.size) = false := decide_eq_false (by omega)
             clear c33
             obtain rfl := Option.some.inj H
             have hcz38_0 : wc.cell? ⟨gb101,0,none⟩ = some (.int .i64 a0_0) := (qw BK101.out 0).trans rfl
             have hcz38_1 : wc.cell? ⟨gb101,1,none⟩ = some (.int .i64 a0_1) := (qw BK101.out 1).trans rfl
             have hcz38_2 : wc.cell? ⟨gb101,2,none⟩ = some (.string a0_2) := (qw BK101.out 2).trans rfl
             have hcz38_3 : wc.cell? ⟨gb101,3,none⟩ = some (.string a0_3) := (qw BK101.out 3).trans rfl
             have hfz38_0 := qv BK101.out 0
             have hfz38_1 := qv BK101.out 1
             have hfz38_2 := qv BK101.out 2
             have hfz38_3 := qv BK101.out 3
             go_wp2_with (first | (go_at_call 45;(with_reducible refine (qjv.calls kj17 a0_3 true _ A31.out).mono ?_);rintro e w' ⟨rfl,⟨nd,rfl⟩⟩;(try first | exact ⟨rfl,_,World.drewN_drewN _ _ _⟩ | exact ⟨rfl,_,Eq.trans (World.drewN_drewN _ _ _) (congrArg (World.drewN _) (Nat.add_assoc _ _ _))⟩)))
             repeat (go_quiet (first | (go_at_call 45;(with_reducible refine (qjv.calls kj17 a0_3 true _ A31.out).mono ?_);rintro e w' ⟨rfl,⟨nd,rfl⟩⟩;(try first | exact ⟨rfl,_,World.drewN_drewN _ _ _⟩ | exact ⟨rfl,_,Eq.trans (World.drewN_drewN _ _ _) (congrArg (World.drewN _) (Nat.add_assoc _ _ _))⟩)));try go_wp2_with (first | (go_at_call 45;(with_reducible refine (qjv.calls kj17 a0_3 true _ A31.out).mono ?_);rintro e w' ⟨rfl,⟨nd,rfl⟩⟩;(try first | exact ⟨rfl,_,World.drewN_drewN _ _ _⟩ | exact ⟨rfl,_,Eq.trans (World.drewN_drewN _ _ _) (congrArg (World.drewN _) (Nat.add_assoc _ _ _))⟩))))
             go_ret
             exact ⟨by first | rfl | (simp [*,jk,jj] <;> rfl),by repeat (first | (with_reducible first | exact HB.out | apply qj | apply qz | apply qk | refine qx ?_ GE101.out) | exact HB.out)⟩
           ·replace c32 := Bool.eq_false_iff.mpr c32
            subst c32
            have H1 : (some false) = some r := by rw [if_neg (show ¬ (false = true) by decide)] at H;exact H
            clear H
            have H := H1
            clear H1
            obtain rfl := Option.some.inj H
            have hcz39_0 : wc.cell? ⟨gb101,0,none⟩ = some (.int .i64 a0_0) := (qw BK101.out 0).trans rfl
            have hcz39_1 : wc.cell? ⟨gb101,1,none⟩ = some (.int .i64 a0_1) := (qw BK101.out 1).trans rfl
            have hcz39_2 : wc.cell? ⟨gb101,2,none⟩ = some (.string a0_2) := (qw BK101.out 2).trans rfl
            have hcz39_3 : wc.cell? ⟨gb101,3,none⟩ = some (.string a0_3) := (qw BK101.out 3).trans rfl
            have hfz39_0 := qv BK101.out 0
            have hfz39_1 := qv BK101.out 1
            have hfz39_2 := qv BK101.out 2
            have hfz39_3 := qv BK101.out 3
            go_wp2_with (first | (go_at_call 45;(with_reducible refine (qjv.calls kj17 a0_3 false _ A31.out).mono ?_);rintro e w' ⟨rfl,⟨nd,rfl⟩⟩;(try first | exact ⟨rfl,_,World.drewN_drewN _ _ _⟩ | exact ⟨rfl,_,Eq.trans (World.drewN_drewN _ _ _) (congrArg (World.drewN _) (Nat.add_assoc _ _ _))⟩)))
            repeat (go_quiet (first | (go_at_call 45;(with_reducible refine (qjv.calls kj17 a0_3 false _ A31.out).mono ?_);rintro e w' ⟨rfl,⟨nd,rfl⟩⟩;(try first | exact ⟨rfl,_,World.drewN_drewN _ _ _⟩ | exact ⟨rfl,_,Eq.trans (World.drewN_drewN _ _ _) (congrArg (World.drewN _) (Nat.add_assoc _ _ _))⟩)));try go_wp2_with (first | (go_at_call 45;(with_reducible refine (qjv.calls kj17 a0_3 false _ A31.out).mono ?_);rintro e w' ⟨rfl,⟨nd,rfl⟩⟩;(try first | exact ⟨rfl,_,World.drewN_drewN _ _ _⟩ | exact ⟨rfl,_,Eq.trans (World.drewN_drewN _ _ _) (congrArg (World.drewN _) (Nat.add_assoc _ _ _))⟩))))
            go_ret
            exact ⟨by first | rfl | (simp [*,jk,jj] <;> rfl),by repeat (first | (with_reducible first | exact HB.out | apply qj | apply qz | apply qk | refine qx ?_ GE101.out) | exact HB.out)⟩
          ·rw [if_neg c30] at H
           have c30b0 : (a0_1 == 0) = false := beq_eq_false_iff_ne.mpr c30
           have c30b1 : (a0_1 != 0) = true := bne_iff_ne.mpr c30
           obtain rfl := Option.some.inj H
           have hcz40_0 : wc.cell? ⟨gb101,0,none⟩ = some (.int .i64 a0_0) := (qw BK101.out 0).trans rfl
           have hcz40_1 : wc.cell? ⟨gb101,1,none⟩ = some (.int .i64 a0_1) := (qw BK101.out 1).trans rfl
           have hcz40_2 : wc.cell? ⟨gb101,2,none⟩ = some (.string a0_2) := (qw BK101.out 2).trans rfl
           have hcz40_3 : wc.cell? ⟨gb101,3,none⟩ = some (.string a0_3) := (qw BK101.out 3).trans rfl
           have hfz40_0 := qv BK101.out 0
           have hfz40_1 := qv BK101.out 1
           have hfz40_2 := qv BK101.out 2
           have hfz40_3 := qv BK101.out 3
           go_wp2
           repeat (go_quiet (fail);try go_wp2)
           go_ret
           exact ⟨by first | rfl | (simp [*,jk,jj] <;> rfl),by repeat (first | (with_reducible first | exact HB.out | apply qj | apply qz | apply qk | refine qx ?_ GE101.out) | exact HB.out)⟩
         ·rw [if_neg c29] at H
          have c29b0 : (a0_0 == 4) = false := beq_eq_false_iff_ne.mpr c29
          have c29b1 : (a0_0 != 4) = true := bne_iff_ne.mpr c29
          by_cases c41 : a0_0 = 6
          ·rw [if_pos c41] at H
           have c41b0 : (a0_0 == 6) = true := beq_iff_eq.mpr c41
           have c41b1 : (a0_0 != 6) = false := bne_eq_false_iff_eq.mpr c41
           clear c41
           by_cases c42 : a0_1 < 0
           ·rw [if_pos c42] at H
            have c42b0 : decide (a0_1 < 0) = true := decide_eq_true c42
            clear c42
            obtain rfl := Option.some.inj H
            have hcz43_0 : wc.cell? ⟨gb101,0,none⟩ = some (.int .i64 a0_0) := (qw BK101.out 0).trans rfl
            have hcz43_1 : wc.cell? ⟨gb101,1,none⟩ = some (.int .i64 a0_1) := (qw BK101.out 1).trans rfl
            have hcz43_2 : wc.cell? ⟨gb101,2,none⟩ = some (.string a0_2) := (qw BK101.out 2).trans rfl
            have hcz43_3 : wc.cell? ⟨gb101,3,none⟩ = some (.string a0_3) := (qw BK101.out 3).trans rfl
            have hfz43_0 := qv BK101.out 0
            have hfz43_1 := qv BK101.out 1
            have hfz43_2 := qv BK101.out 2
            have hfz43_3 := qv BK101.out 3
            go_wp2
            repeat (go_quiet (fail);try go_wp2)
            go_ret
            exact ⟨by first | rfl | (simp [*,jk,jj] <;> rfl),by repeat (first | (with_reducible first | exact HB.out | apply qj | apply qz | apply qk | refine qx ?_ GE101.out) | exact HB.out)⟩
           ·rw [if_neg c42] at H
            have c42b0 : decide (a0_1 < 0) = false := decide_eq_false c42
            clear c42
            replace H := Option.bind_eq_some_iff.mp H
            obtain ⟨t105,A440,H⟩ := H
            replace H : (if (wrap64 (Int.tdiv a0_1 64)) > (wrap64 (t105 - 1)) then (some false) else (if (Int.tmod a0_1 64) > 32 then (some false) else ((qkz.f kj17 a0_0 a0_1 a0_2 a0_3).bind fun bt106 => (if bt106.2 = 0 then (none) else (some ((Int.tmod bt106.1 bt106.2) == 0)))))) = some r := H
            have A44 := qq.mk A440
            clear A440
            by_cases c45 : (wrap64 (Int.tdiv a0_1 64)) > (wrap64 (t105 - 1))
            ·rw [if_pos c45] at H
             have c45b0 : decide ((wrap64 (t105 - 1)) < (wrap64 (Int.tdiv a0_1 64))) = true := decide_eq_true c45
             clear c45
             obtain rfl := Option.some.inj H
             have hcz46_0 : wc.cell? ⟨gb101,0,none⟩ = some (.int .i64 a0_0) := (qw BK101.out 0).trans rfl
             have hcz46_1 : wc.cell? ⟨gb101,1,none⟩ = some (.int .i64 a0_1) := (qw BK101.out 1).trans rfl
             have hcz46_2 : wc.cell? ⟨gb101,2,none⟩ = some (.string a0_2) := (qw BK101.out 2).trans rfl
             have hcz46_3 : wc.cell? ⟨gb101,3,none⟩ = some (.string a0_3) := (qw BK101.out 3).trans rfl
             have hfz46_0 := qv BK101.out 0
             have hfz46_1 := qv BK101.out 1
             have hfz46_2 := qv BK101.out 2
             have hfz46_3 := qv BK101.out 3
             go_wp2_with (first | (go_at_call 73;(with_reducible refine (qkw.calls kj17 32 t105 _ A44.out).mono ?_);rintro e w' ⟨rfl,⟨nd,rfl⟩⟩;(try first | exact ⟨rfl,_,World.drewN_drewN _ _ _⟩ | exact ⟨rfl,_,Eq.trans (World.drewN_drewN _ _ _) (congrArg (World.drewN _) (Nat.add_assoc _ _ _))⟩)))
             repeat (go_quiet (first | (go_at_call 73;(with_reducible refine (qkw.calls kj17 32 t105 _ A44.out).mono ?_);rintro e w' ⟨rfl,⟨nd,rfl⟩⟩;(try first | exact ⟨rfl,_,World.drewN_drewN _ _ _⟩ | exact ⟨rfl,_,Eq.trans (World.drewN_drewN _ _ _) (congrArg (World.drewN _) (Nat.add_assoc _ _ _))⟩)));try go_wp2_with (first | (go_at_call 73;(with_reducible refine (qkw.calls kj17 32 t105 _ A44.out).mono ?_);rintro e w' ⟨rfl,⟨nd,rfl⟩⟩;(try first | exact ⟨rfl,_,World.drewN_drewN _ _ _⟩ | exact ⟨rfl,_,Eq.trans (World.drewN_drewN _ _ _) (congrArg (World.drewN _) (Nat.add_assoc _ _ _))⟩))))
             go_ret
             exact ⟨by first | rfl | (simp [*,jk,jj] <;> rfl),by repeat (first | (with_reducible first | exact HB.out | apply qj | apply qz | apply qk | refine qx ?_ GE101.out) | exact HB.out)⟩
            ·rw [if_neg c45] at H
             have c45b0 : decide ((wrap64 (t105 - 1)) < (wrap64 (Int.tdiv a0_1 64))) = false := decide_eq_false c45
             clear c45
             by_cases c47 : (Int.tmod a0_1 64) > 32
             ·rw [if_pos c47] at H
              have c47b0 : decide (32 < (Int.tmod a0_1 64)) = true := decide_eq_true c47
              clear c47
              obtain rfl := Option.some.inj H
              have hcz48_0 : wc.cell? ⟨gb101,0,none⟩ = some (.int .i64 a0_0) := (qw BK101.out 0).trans rfl
              have hcz48_1 : wc.cell? ⟨gb101,1,none⟩ = some (.int .i64 a0_1) := (qw BK101.out 1).trans rfl
              have hcz48_2 : wc.cell? ⟨gb101,2,none⟩ = some (.string a0_2) := (qw BK101.out 2).trans rfl
              have hcz48_3 : wc.cell? ⟨gb101,3,none⟩ = some (.string a0_3) := (qw BK101.out 3).trans rfl
              have hfz48_0 := qv BK101.out 0
              have hfz48_1 := qv BK101.out 1
              have hfz48_2 := qv BK101.out 2
              have hfz48_3 := qv BK101.out 3
              go_wp2_with (first | (go_at_call 73;(with_reducible refine (qkw.calls kj17 32 t105 _ A44.out).mono ?_);rintro e w' ⟨rfl,⟨nd,rfl⟩⟩;(try first | exact ⟨rfl,_,World.drewN_drewN _ _ _⟩ | exact ⟨rfl,_,Eq.trans (World.drewN_drewN _ _ _) (congrArg (World.drewN _) (Nat.add_assoc _ _ _))⟩)))
              repeat (go_quiet (first | (go_at_call 73;(with_reducible refine (qkw.calls kj17 32 t105 _ A44.out).mono ?_);rintro e w' ⟨rfl,⟨nd,rfl⟩⟩;(try first | exact ⟨rfl,_,World.drewN_drewN _ _ _⟩ | exact ⟨rfl,_,Eq.trans (World.drewN_drewN _ _ _) (congrArg (World.drewN _) (Nat.add_assoc _ _ _))⟩)));try go_wp2_with (first | (go_at_call 73;(with_reducible refine (qkw.calls kj17 32 t105 _ A44.out).mono ?_);rintro e w' ⟨rfl,⟨nd,rfl⟩⟩;(try first | exact ⟨rfl,_,World.drewN_drewN _ _ _⟩ | exact ⟨rfl,_,Eq.trans (World.drewN_drewN _ _ _) (congrArg (World.drewN _) (Nat.add_assoc _ _ _))⟩))))
              go_ret
              exact ⟨by first | rfl | (simp [*,jk,jj] <;> rfl),by repeat (first | (with_reducible first | exact HB.out | apply qj | apply qz | apply qk | refine qx ?_ GE101.out) | exact HB.out)⟩
             ·rw [if_neg c47] at H
              have c47b0 : decide (32 < (Int.tmod a0_1 64)) = false := decide_eq_false c47
              clear c47
              replace H := Option.bind_eq_some_iff.mp H
              obtain ⟨⟨t106,t107⟩,A490,H⟩ := H
              replace H : (if t107 = 0 then (none) else (some ((Int.tmod t106 t107) == 0))) = some r := H
              have A49 := qq.mk A490
              clear A490
              by_cases c50 : t107 = 0
              ·rw [if_pos c50] at H
               exact absurd H (by simp)
              ·rw [if_neg c50] at H
               have c50b0 : (t107 == 0) = false := beq_eq_false_iff_ne.mpr c50
               have c50b1 : (t107 != 0) = true := bne_iff_ne.mpr c50
               obtain rfl := Option.some.inj H
               have hcz51_0 : wc.cell? ⟨gb101,0,none⟩ = some (.int .i64 a0_0) := (qw BK101.out 0).trans rfl
               have hcz51_1 : wc.cell? ⟨gb101,1,none⟩ = some (.int .i64 a0_1) := (qw BK101.out 1).trans rfl
               have hcz51_2 : wc.cell? ⟨gb101,2,none⟩ = some (.string a0_2) := (qw BK101.out 2).trans rfl
               have hcz51_3 : wc.cell? ⟨gb101,3,none⟩ = some (.string a0_3) := (qw BK101.out 3).trans rfl
               have hfz51_0 := qv BK101.out 0
               have hfz51_1 := qv BK101.out 1
               have hfz51_2 := qv BK101.out 2
               have hfz51_3 := qv BK101.out 3
               go_wp2_with (first | (go_at_call 73;(with_reducible refine (qkw.calls kj17 32 t105 _ A44.out).mono ?_);rintro e w' ⟨rfl,⟨nd,rfl⟩⟩;(try first | exact ⟨rfl,_,World.drewN_drewN _ _ _⟩ | exact ⟨rfl,_,Eq.trans (World.drewN_drewN _ _ _) (congrArg (World.drewN _) (Nat.add_assoc _ _ _))⟩)) | (go_at_call 50;(with_reducible refine (qkz.calls kj17 a0_0 a0_1 a0_2 a0_3 t106 t107 _ A49.out).mono ?_);rintro e w52 ⟨rfl,hb⟩;have n0_ := qq.mk (kw (g := gb101) (o := .cells #[.int .i64 a0_0,.int .i64 a0_1,.string a0_2,.string a0_3] 28 (0,0)) (by (with_reducible repeat (first | refine zz ?_ _ | refine zj ?_ | refine zq ?_ _));exact BK101.out) hb);have n1_ := qq.mk (zv (by repeat (first | (with_reducible first | exact HB.out | apply qj | apply qz | apply qk | refine qx ?_ GE101.out) | exact HB.out)) hb);clear BK101;clear HB;have BK101 := n0_;have HB := n1_;clear n0_ n1_;(try clear hb);(try clear hb2);(try clear hk);(try clear hi)))
               repeat (go_quiet (first | (go_at_call 73;(with_reducible refine (qkw.calls kj17 32 t105 _ A44.out).mono ?_);rintro e w' ⟨rfl,⟨nd,rfl⟩⟩;(try first | exact ⟨rfl,_,World.drewN_drewN _ _ _⟩ | exact ⟨rfl,_,Eq.trans (World.drewN_drewN _ _ _) (congrArg (World.drewN _) (Nat.add_assoc _ _ _))⟩)) | (go_at_call 50;(with_reducible refine (qkz.calls kj17 a0_0 a0_1 a0_2 a0_3 t106 t107 _ A49.out).mono ?_);rintro e w52 ⟨rfl,hb⟩;have n0_ := qq.mk (kw (g := gb101) (o := .cells #[.int .i64 a0_0,.int .i64 a0_1,.string a0_2,.string a0_3] 28 (0,0)) (by (with_reducible repeat (first | refine zz ?_ _ | refine zj ?_ | refine zq ?_ _));exact BK101.out) hb);have n1_ := qq.mk (zv (by repeat (first | (with_reducible first | exact HB.out | apply qj | apply qz | apply qk | refine qx ?_ GE101.out) | exact HB.out)) hb);clear BK101;clear HB;have BK101 := n0_;have HB := n1_;clear n0_ n1_;(try clear hb);(try clear hb2);(try clear hk);(try clear hi)));try go_wp2_with (first | (go_at_call 73;(with_reducible refine (qkw.calls kj17 32 t105 _ A44.out).mono ?_);rintro e w' ⟨rfl,⟨nd,rfl⟩⟩;(try first | exact ⟨rfl,_,World.drewN_drewN _ _ _⟩ | exact ⟨rfl,_,Eq.trans (World.drewN_drewN _ _ _) (congrArg (World.drewN _) (Nat.add_assoc _ _ _))⟩)) | (go_at_call 50;(with_reducible refine (qkz.calls kj17 a0_0 a0_1 a0_2 a0_3 t106 t107 _ A49.out).mono ?_);rintro e w52 ⟨rfl,hb⟩;have n0_ := qq.mk (kw (g := gb101) (o := .cells #[.int .i64 a0_0,.int .i64 a0_1,.string a0_2,.string a0_3] 28 (0,0)) (by (with_reducible repeat (first | refine zz ?_ _ | refine zj ?_ | refine zq ?_ _));exact BK101.out) hb);have n1_ := qq.mk (zv (by repeat (first | (with_reducible first | exact HB.out | apply qj | apply qz | apply qk | refine qx ?_ GE101.out) | exact HB.out)) hb);clear BK101;clear HB;have BK101 := n0_;have HB := n1_;clear n0_ n1_;(try clear hb);(try clear hb2);(try clear hk);(try clear hi))))
               go_ret
               exact ⟨by first | rfl | (simp [*,jk,jj] <;> rfl),by repeat (first | (with_reducible first | exact HB.out | apply qj | apply qz | apply qk | refine qx ?_ GE101.out) | exact HB.out)⟩
          ·rw [if_neg c41] at H
           have c41b0 : (a0_0 == 6) = false := beq_eq_false_iff_ne.mpr c41
           have c41b1 : (a0_0 != 6) = true := bne_iff_ne.mpr c41
           by_cases c53 : a0_0 = 7
           ·rw [if_pos c53] at H
            have c53b0 : (a0_0 == 7) = true := beq_iff_eq.mpr c53
            have c53b1 : (a0_0 != 7) = false := bne_eq_false_iff_eq.mpr c53
            clear c53
            by_cases c54 : a0_1 ≥ (-100000000000)
            ·rw [if_pos c54] at H
             have c54b0 : decide ((-100000000000) ≤ a0_1) = true := decide_eq_true c54
             clear c54
             obtain rfl := Option.some.inj H
             have hcz55_0 : wc.cell? ⟨gb101,0,none⟩ = some (.int .i64 a0_0) := (qw BK101.out 0).trans rfl
             have hcz55_1 : wc.cell? ⟨gb101,1,none⟩ = some (.int .i64 a0_1) := (qw BK101.out 1).trans rfl
             have hcz55_2 : wc.cell? ⟨gb101,2,none⟩ = some (.string a0_2) := (qw BK101.out 2).trans rfl
             have hcz55_3 : wc.cell? ⟨gb101,3,none⟩ = some (.string a0_3) := (qw BK101.out 3).trans rfl
             have hfz55_0 := qv BK101.out 0
             have hfz55_1 := qv BK101.out 1
             have hfz55_2 := qv BK101.out 2
             have hfz55_3 := qv BK101.out 3
             go_wp2
             repeat (go_quiet (fail);try go_wp2)
             go_ret
             exact ⟨by first | rfl | (simp [*,jk,jj] <;> rfl),by repeat (first | (with_reducible first | exact HB.out | apply qj | apply qz | apply qk | refine qx ?_ GE101.out) | exact HB.out)⟩
            ·rw [if_neg c54] at H
             have c54b0 : decide ((-100000000000) ≤ a0_1) = false := decide_eq_false c54
             clear c54
             obtain rfl := Option.some.inj H
             have hcz56_0 : wc.cell? ⟨gb101,0,none⟩ = some (.int .i64 a0_0) := (qw BK101.out 0).trans rfl
             have hcz56_1 : wc.cell? ⟨gb101,1,none⟩ = some (.int .i64 a0_1) := (qw BK101.out 1).trans rfl
             have hcz56_2 : wc.cell? ⟨gb101,2,none⟩ = some (.string a0_2) := (qw BK101.out 2).trans rfl
             have hcz56_3 : wc.cell? ⟨gb101,3,none⟩ = some (.string a0_3) := (qw BK101.out 3).trans rfl
             have hfz56_0 := qv BK101.out 0
             have hfz56_1 := qv BK101.out 1
             have hfz56_2 := qv BK101.out 2
             have hfz56_3 := qv BK101.out 3
             go_wp2
             repeat (go_quiet (fail);try go_wp2)
             go_ret
             exact ⟨by first | rfl | (simp [*,jk,jj] <;> rfl),by repeat (first | (with_reducible first | exact HB.out | apply qj | apply qz | apply qk | refine qx ?_ GE101.out) | exact HB.out)⟩
           ·rw [if_neg c53] at H
            have c53b0 : (a0_0 == 7) = false := beq_eq_false_iff_ne.mpr c53
            have c53b1 : (a0_0 != 7) = true := bne_iff_ne.mpr c53
            obtain rfl := Option.some.inj H
            go_wp2
            repeat (go_quiet (fail);try go_wp2)
            go_ret
            exact ⟨by first | rfl | (simp [*,jk,jj] <;> rfl),by repeat (first | (with_reducible first | exact HB.out | apply qj | apply qz | apply qk | refine qx ?_ GE101.out) | exact HB.out)⟩
end Go.Proofs.YtnbbbjfjkhglhaaGreatDoor.Pr
namespace Go.Proofs.YtnbbbjfjkhglhaaGreatDoor.Pr
open Go.RowKit Go.Proofs.YtnbbbjfjkhglhaaGreatDoorW.PrintWords Go.Proofs.YtnbbbjfjkhglhaaGreatDoorW.PrintLast Go.Proofs.YtnbbbjfjkhglhaaGreatDoorW.PrintMore
attribute [local go_sem] max2_int min2_int max_two min_two max_three min_three max_four min_four
set_option linter.unusedVariables false
set_option linter.unusedSimpArgs false
def qkq.j0 : Nat → Bool → ByteArray → Int → ByteArray → Int → Int → ByteArray → ByteArray → Option (Bool)
 | 0,_,_,_,_,_,_,_,_ => none
 | k + 1,x18,x102000,x102001,x102002,x102003,x102004,x102005,x102006 => if x18 = true then (some false) else (if x102001 = 1 then (if x102003 = 2 then (some true) else (if x102003 = 3 then (some true) else (if x102003 = 5 then (some true) else (some (x102003 == 7))))) else (if x102001 = 2 then (if x102003 = 2 then (some true) else (if x102003 = 3 then (some true) else (if x102003 = 5 then (some true) else (some (x102003 == 7))))) else (if x102001 = 3 then (if x102003 = 2 then (some true) else (if x102003 = 3 then (some true) else (if x102003 = 5 then (some true) else (some (x102003 == 7))))) else (if x102001 = 4 then (some (x102003 == 6)) else (some false)))))
def qkq.f (k : Nat) (a0_0 : ByteArray) (a0_1 : Int) (a0_2 : ByteArray) (a0_3 : Int) (a0_4 : Int) (a0_5 : ByteArray) (a0_6 : ByteArray) : Option (Bool) := (qjv.f k a0_0).bind fun t102 => (if t102 = true then (if a0_2.toList = ([] : List UInt8) then ((qjk.f k a0_3 a0_4 a0_5 a0_6).bind fun t103 => (qkq.j0 k (!t103) a0_0 a0_1 a0_2 a0_3 a0_4 a0_5 a0_6)) else (qkq.j0 k true a0_0 a0_1 a0_2 a0_3 a0_4 a0_5 a0_6)) else (qkq.j0 k true a0_0 a0_1 a0_2 a0_3 a0_4 a0_5 a0_6))
set_option maxHeartbeats 8000000 in
set_option maxRecDepth 100000 in
theorem qkq.calls (k : Nat) (a0_0 : ByteArray) (a0_1 : Int) (a0_2 : ByteArray) (a0_3 : Int) (a0_4 : Int) (a0_5 : ByteArray) (a0_6 : ByteArray) (r : Bool) (w : World) (h : qkq.f k a0_0 a0_1 a0_2 a0_3 a0_4 a0_5 a0_6 = some r) :
  Calls Tryz.prog 20 #[.agg #[.string a0_0,.int .i64 a0_1,.string a0_2,.int .i64 a0_3,.int .i64 a0_4,.string a0_5,.string a0_6]] w fun e w' => e = .returned (.bool r) ∧ Below w.heap.size w w' := by
 have hu30 := Tryz.underlying30
 have hu28 := Tryz.underlying28
 have HB := qq.mk (Below.refl w.heap.size w)
 have H : ((qjv.f k a0_0).bind fun t102 => (if t102 = true then (if a0_2.toList = ([] : List UInt8) then ((qjk.f k a0_3 a0_4 a0_5 a0_6).bind fun t103 => (qkq.j0 k (!t103) a0_0 a0_1 a0_2 a0_3 a0_4 a0_5 a0_6)) else (qkq.j0 k true a0_0 a0_1 a0_2 a0_3 a0_4 a0_5 a0_6)) else (qkq.j0 k true a0_0 a0_1 a0_2 a0_3 a0_4 a0_5 a0_6))) = some r := h
 clear h
 have HC2 := qq.mk H
 clear H
 go_enter Tryz.func20,Tryz.ntmps20
 go_upto_region 1 with (first | ((with_reducible refine gate_dst (N := 1) rfl ?_);refine box_event ?hg (N := 1) ?hd (cs := #[.string a0_0,.int .i64 a0_1,.string a0_2,.int .i64 a0_3,.int .i64 a0_4,.string a0_5,.string a0_6]) (t := 30) ?hr ?_;(case hd => rfl);(case hg => rfl);(case hr => first | (go_simp;done) | (go_simp;rfl));intro gb101 hg w3 hbox hb;have n0_ := qq.mk (zv (by repeat (first | (with_reducible first | exact HB.out | apply qj | apply qz | apply qk) | exact HB.out)) hb);have n1_ := qq.mk (hbox);have n2_ := qq.mk ((by rw [hg];exact (zw (by repeat (first | (with_reducible first | exact HB.out | apply qj | apply qz | apply qk) | exact HB.out))) : w.heap.size ≤ gb101));have n3_ := qq.mk ((by rw [hg];exact (zw (by repeat (first | (with_reducible first | exact HB.out | apply qj | apply qz | apply qk) | exact HB.out))) : w.heap.size ≤ gb101));clear HB;have HB := n0_;have BK101 := n1_;have GW101 := n2_;have GE101 := n3_;clear n0_ n1_ n2_ n3_;clear hb hbox hg))
 (try simp only [Act.put,List.setIfInBounds_toArray,List.set_cons_zero,List.set_cons_succ])
 go_cut [18] (fun v18 wc => ∃ (kq : Nat) (x18_1 : Bool),v18 = .bool x18_1 ∧ qq (qkq.j0 kq x18_1 a0_0 a0_1 a0_2 a0_3 a0_4 a0_5 a0_6 = some r) ∧ qq (kq ≤ k) ∧ qq (wc.heap[gb101]? = some (.cells #[.string a0_0,.int .i64 a0_1,.string a0_2,.int .i64 a0_3,.int .i64 a0_4,.string a0_5,.string a0_6] 30 (0,0))) ∧ qq (Below w.heap.size w wc))
 case first =>
  have H := HC2.out
  clear HC2
  replace H := Option.bind_eq_some_iff.mp H
  obtain ⟨t102,A40,H⟩ := H
  replace H : (if t102 = true then (if a0_2.toList = ([] : List UInt8) then ((qjk.f k a0_3 a0_4 a0_5 a0_6).bind fun t103 => (qkq.j0 k (!t103) a0_0 a0_1 a0_2 a0_3 a0_4 a0_5 a0_6)) else (qkq.j0 k true a0_0 a0_1 a0_2 a0_3 a0_4 a0_5 a0_6)) else (qkq.j0 k true a0_0 a0_1 a0_2 a0_3 a0_4 a0_5 a0_6)) = some r := H
  have A4 := qq.mk A40
  clear A40
  by_cases c5 : t102 = true
  ·subst c5
   have H1 : (if a0_2.toList = ([] : List UInt8) then ((qjk.f k a0_3 a0_4 a0_5 a0_6).bind fun t103 => (qkq.j0 k (!t103) a0_0 a0_1 a0_2 a0_3 a0_4 a0_5 a0_6)) else (qkq.j0 k true a0_0 a0_1 a0_2 a0_3 a0_4 a0_5 a0_6)) = some r := by rw [if_pos rfl] at H;exact H
   clear H
   have H := H1
   clear H1
   by_cases c6 : a0_2.toList = ([] : List UInt8)
   ·rw [if_pos c6] at H
    have c6b0 : (a0_2.toList == ([] : List UInt8)) = true := beq_iff_eq.mpr c6
    have c6b1 : (a0_2.toList != ([] : List UInt8)) = false := bne_eq_false_iff_eq.mpr c6
    clear c6
    (first | rw [c6b0] | (simp only [i64_w,i32_w];rw [c6b0]) | skip)
    replace H := Option.bind_eq_some_iff.mp H
    obtain ⟨t103,A70,H⟩ := H
    replace H : (qkq.j0 k (!t103) a0_0 a0_1 a0_2 a0_3 a0_4 a0_5 a0_6) = some r := H
    have A7 := qq.mk A70
    clear A70
    have H' := qq.mk H
    clear H
    have hcz8_0 : w3.cell? ⟨gb101,0,none⟩ = some (.string a0_0) := (qw BK101.out 0).trans rfl
    have hcz8_1 : w3.cell? ⟨gb101,1,none⟩ = some (.int .i64 a0_1) := (qw BK101.out 1).trans rfl
    have hcz8_2 : w3.cell? ⟨gb101,2,none⟩ = some (.string a0_2) := (qw BK101.out 2).trans rfl
    have hcz8_3 : w3.cell? ⟨gb101,3,none⟩ = some (.int .i64 a0_3) := (qw BK101.out 3).trans rfl
    have hcz8_4 : w3.cell? ⟨gb101,4,none⟩ = some (.int .i64 a0_4) := (qw BK101.out 4).trans rfl
    have hcz8_5 : w3.cell? ⟨gb101,5,none⟩ = some (.string a0_5) := (qw BK101.out 5).trans rfl
    have hcz8_6 : w3.cell? ⟨gb101,6,none⟩ = some (.string a0_6) := (qw BK101.out 6).trans rfl
    have hfz8_0 := qv BK101.out 0
    have hfz8_1 := qv BK101.out 1
    have hfz8_2 := qv BK101.out 2
    have hfz8_3 := qv BK101.out 3
    have hfz8_4 := qv BK101.out 4
    have hfz8_5 := qv BK101.out 5
    have hfz8_6 := qv BK101.out 6
    go_wp2_with (first | ((with_reducible refine jv (f := 45) rfl ?_);refine goesL_ (some 6) rfl rfl Tryz.func45 (by kernel_rfl) rfl #[.string a0_0] rfl (by (try simp only [List.map_toArray,List.map_cons,List.map_nil]);first | done | rfl | (simp only [List.length_drop,List.length_take];rfl)) ?_;(with_reducible refine (qjv.calls k a0_0 true _ A4.out).mono ?_);rintro e w' ⟨rfl,⟨nd,rfl⟩⟩;refine ⟨_,rfl,?_⟩) | (go_at_call 46;(with_reducible refine (qjk.calls k a0_3 a0_4 a0_5 a0_6 t103 _ A7.out).mono ?_);rintro e w9 ⟨rfl,hb⟩;have n0_ := qq.mk (kw (g := gb101) (o := .cells #[.string a0_0,.int .i64 a0_1,.string a0_2,.int .i64 a0_3,.int .i64 a0_4,.string a0_5,.string a0_6] 30 (0,0)) (by (with_reducible repeat (first | refine zz ?_ _ | refine zj ?_ | refine zq ?_ _));exact BK101.out) hb);have n1_ := qq.mk (zv (by repeat (first | (with_reducible first | exact HB.out | apply qj | apply qz | apply qk | refine qx ?_ GE101.out) | exact HB.out)) hb);clear BK101;clear HB;have BK101 := n0_;have HB := n1_;clear n0_ n1_;(try clear hb);(try clear hb2);(try clear hk);(try clear hi)))
    go_meet
    case rel => exact ⟨_,(!t103),(by first | rfl | (simp;done) | (simp [*];done) | (generalize ByteArray.toList _ = l_;cases l_ <;> first | rfl | (simp;done))),H',⟨by first | omega | exact Nat.le_refl _⟩,⟨by (with_reducible repeat (first | refine zz ?_ _ | refine zj ?_ | refine zq ?_ _));exact BK101.out⟩,⟨by repeat (first | (with_reducible first | exact HB.out | apply qj | apply qz | apply qk | refine qx ?_ GE101.out) | exact HB.out)⟩⟩
   ·rw [if_neg c6] at H
    have c6b0 : (a0_2.toList == ([] : List UInt8)) = false := beq_eq_false_iff_ne.mpr c6
    have c6b1 : (a0_2.toList != ([] : List UInt8)) = true := bne_iff_ne.mpr c6
    (first | rw [c6b0] | (simp only [i64_w,i32_w];rw [c6b0]) | skip)
    have H' := qq.mk H
    clear H
    have hcz10_0 : w3.cell? ⟨gb101,0,none⟩ = some (.string a0_0) := (qw BK101.out 0).trans rfl
    have hcz10_1 : w3.cell? ⟨gb101,1,none⟩ = some (.int .i64 a0_1) := (qw BK101.out 1).trans rfl
    have hcz10_2 : w3.cell? ⟨gb101,2,none⟩ = some (.string a0_2) := (qw BK101.out 2).trans rfl
    have hcz10_3 : w3.cell? ⟨gb101,3,none⟩ = some (.int .i64 a0_3) := (qw BK101.out 3).trans rfl
    have hcz10_4 : w3.cell? ⟨gb101,4,none⟩ = some (.int .i64 a0_4) := (qw BK101.out 4).trans rfl
    have hcz10_5 : w3.cell? ⟨gb101,5,none⟩ = some (.string a0_5) := (qw BK101.out 5).trans rfl
    have hcz10_6 : w3.cell? ⟨gb101,6,none⟩ = some (.string a0_6) := (qw BK101.out 6).trans rfl
    have hfz10_0 := qv BK101.out 0
    have hfz10_1 := qv BK101.out 1
    have hfz10_2 := qv BK101.out 2
    have hfz10_3 := qv BK101.out 3
    have hfz10_4 := qv BK101.out 4
    have hfz10_5 := qv BK101.out 5
    have hfz10_6 := qv BK101.out 6
    go_wp2_with (first | ((with_reducible refine jv (f := 45) rfl ?_);refine goesL_ (some 6) rfl rfl Tryz.func45 (by kernel_rfl) rfl #[.string a0_0] rfl (by (try simp only [List.map_toArray,List.map_cons,List.map_nil]);first | done | rfl | (simp only [List.length_drop,List.length_take];rfl)) ?_;(with_reducible refine (qjv.calls k a0_0 true _ A4.out).mono ?_);rintro e w' ⟨rfl,⟨nd,rfl⟩⟩;refine ⟨_,rfl,?_⟩))
    go_meet
    case rel => exact ⟨_,(true),(by first | rfl | (simp;done) | (simp [*];done) | (generalize ByteArray.toList _ = l_;cases l_ <;> first | rfl | (simp;done))),H',⟨by first | omega | exact Nat.le_refl _⟩,⟨by (with_reducible repeat (first | refine zz ?_ _ | refine zj ?_ | refine zq ?_ _));exact BK101.out⟩,⟨by repeat (first | (with_reducible first | exact HB.out | apply qj | apply qz | apply qk | refine qx ?_ GE101.out) | exact HB.out)⟩⟩
  ·replace c5 := Bool.eq_false_iff.mpr c5
   subst c5
   have H1 : (qkq.j0 k true a0_0 a0_1 a0_2 a0_3 a0_4 a0_5 a0_6) = some r := by rw [if_neg (show ¬ (false = true) by decide)] at H;exact H
   clear H
   have H := H1
   clear H1
   have H' := qq.mk H
   clear H
   have hcz11_0 : w3.cell? ⟨gb101,0,none⟩ = some (.string a0_0) := (qw BK101.out 0).trans rfl
   have hcz11_1 : w3.cell? ⟨gb101,1,none⟩ = some (.int .i64 a0_1) := (qw BK101.out 1).trans rfl
   have hcz11_2 : w3.cell? ⟨gb101,2,none⟩ = some (.string a0_2) := (qw BK101.out 2).trans rfl
   have hcz11_3 : w3.cell? ⟨gb101,3,none⟩ = some (.int .i64 a0_3) := (qw BK101.out 3).trans rfl
   have hcz11_4 : w3.cell? ⟨gb101,4,none⟩ = some (.int .i64 a0_4) := (qw BK101.out 4).trans rfl
   have hcz11_5 : w3.cell? ⟨gb101,5,none⟩ = some (.string a0_5) := (qw BK101.out 5).trans rfl
   have hcz11_6 : w3.cell? ⟨gb101,6,none⟩ = some (.string a0_6) := (qw BK101.out 6).trans rfl
   have hfz11_0 := qv BK101.out 0
   have hfz11_1 := qv BK101.out 1
   have hfz11_2 := qv BK101.out 2
   have hfz11_3 := qv BK101.out 3
   have hfz11_4 := qv BK101.out 4
   have hfz11_5 := qv BK101.out 5
   have hfz11_6 := qv BK101.out 6
   go_wp2_with (first | ((with_reducible refine jv (f := 45) rfl ?_);refine goesL_ (some 6) rfl rfl Tryz.func45 (by kernel_rfl) rfl #[.string a0_0] rfl (by (try simp only [List.map_toArray,List.map_cons,List.map_nil]);first | done | rfl | (simp only [List.length_drop,List.length_take];rfl)) ?_;(with_reducible refine (qjv.calls k a0_0 false _ A4.out).mono ?_);rintro e w' ⟨rfl,⟨nd,rfl⟩⟩;refine ⟨_,rfl,?_⟩))
   go_meet
   case rel => exact ⟨_,(true),(by first | rfl | (simp;done) | (simp [*];done) | (generalize ByteArray.toList _ = l_;cases l_ <;> first | rfl | (simp;done))),H',⟨by first | omega | exact Nat.le_refl _⟩,⟨by (with_reducible repeat (first | refine zz ?_ _ | refine zj ?_ | refine zq ?_ _));exact BK101.out⟩,⟨by repeat (first | (with_reducible first | exact HB.out | apply qj | apply qz | apply qk | refine qx ?_ GE101.out) | exact HB.out)⟩⟩
 case rest =>
  clear HC2
  try clear c2
  try clear p2
  try clear c4
  try clear c5
  try clear c6
  try clear c6b0
  try clear c6b1
  try clear hcz10_0
  try clear hcz10_1
  try clear hcz10_2
  try clear hcz10_3
  try clear hcz10_4
  try clear hcz10_5
  try clear hcz10_6
  try clear hcz11_0
  try clear hcz11_1
  try clear hcz11_2
  try clear hcz11_3
  try clear hcz11_4
  try clear hcz11_5
  try clear hcz11_6
  try clear hcz8_0
  try clear hcz8_1
  try clear hcz8_2
  try clear hcz8_3
  try clear hcz8_4
  try clear hcz8_5
  try clear hcz8_6
  try clear hfz10_0
  try clear hfz10_1
  try clear hfz10_2
  try clear hfz10_3
  try clear hfz10_4
  try clear hfz10_5
  try clear hfz10_6
  try clear hfz11_0
  try clear hfz11_1
  try clear hfz11_2
  try clear hfz11_3
  try clear hfz11_4
  try clear hfz11_5
  try clear hfz11_6
  try clear hfz8_0
  try clear hfz8_1
  try clear hfz8_2
  try clear hfz8_3
  try clear hfz8_4
  try clear hfz8_5
  try clear hfz8_6
  obtain ⟨kq,x18_1,rfl,HA,HJ1,BK101,HB⟩ := hcut
  cases kq with
  | zero => exact absurd HA.out (by simp [qkq.j0])
  | succ kj1 =>
   have H := HA.out
   clear HA
   simp only [qkq.j0] at H
   by_cases c12 : x18_1 = true
   ·subst c12
    have H1 : (some false) = some r := by rw [if_pos rfl] at H;exact H
    clear H
    have H := H1
    clear H1
    obtain rfl := Option.some.inj H
    go_wp2
    go_ret
    exact ⟨by first | rfl | (simp [*,jk,jj] <;> rfl),by repeat (first | (with_reducible first | exact HB.out | apply qj | apply qz | apply qk | refine qx ?_ GE101.out) | exact HB.out)⟩
   ·replace c12 := Bool.eq_false_iff.mpr c12
    subst c12
    have H1 : (if a0_1 = 1 then (if a0_3 = 2 then (some true) else (if a0_3 = 3 then (some true) else (if a0_3 = 5 then (some true) else (some (a0_3 == 7))))) else (if a0_1 = 2 then (if a0_3 = 2 then (some true) else (if a0_3 = 3 then (some true) else (if a0_3 = 5 then (some true) else (some (a0_3 == 7))))) else (if a0_1 = 3 then (if a0_3 = 2 then (some true) else (if a0_3 = 3 then (some true) else (if a0_3 = 5 then (some true) else (some (a0_3 == 7))))) else (if a0_1 = 4 then (some (a0_3 == 6)) else (some false))))) = some r := by rw [if_neg (show ¬ (false = true) by decide)] at H;exact H
    clear H
    have H := H1
    clear H1
    by_cases c13 : a0_1 = 1
    ·rw [if_pos c13] at H
     have c13b0 : (a0_1 == 1) = true := beq_iff_eq.mpr c13
     have c13b1 : (a0_1 != 1) = false := bne_eq_false_iff_eq.mpr c13
     clear c13
     by_cases c14 : a0_3 = 2
     ·rw [if_pos c14] at H
      have c14b0 : (a0_3 == 2) = true := beq_iff_eq.mpr c14
      have c14b1 : (a0_3 != 2) = false := bne_eq_false_iff_eq.mpr c14
      clear c14
      obtain rfl := Option.some.inj H
      have hcz15_0 : wc.cell? ⟨gb101,0,none⟩ = some (.string a0_0) := (qw BK101.out 0).trans rfl
      have hcz15_1 : wc.cell? ⟨gb101,1,none⟩ = some (.int .i64 a0_1) := (qw BK101.out 1).trans rfl
      have hcz15_2 : wc.cell? ⟨gb101,2,none⟩ = some (.string a0_2) := (qw BK101.out 2).trans rfl
      have hcz15_3 : wc.cell? ⟨gb101,3,none⟩ = some (.int .i64 a0_3) := (qw BK101.out 3).trans rfl
      have hcz15_4 : wc.cell? ⟨gb101,4,none⟩ = some (.int .i64 a0_4) := (qw BK101.out 4).trans rfl
      have hcz15_5 : wc.cell? ⟨gb101,5,none⟩ = some (.string a0_5) := (qw BK101.out 5).trans rfl
      have hcz15_6 : wc.cell? ⟨gb101,6,none⟩ = some (.string a0_6) := (qw BK101.out 6).trans rfl
      have hfz15_0 := qv BK101.out 0
      have hfz15_1 := qv BK101.out 1
      have hfz15_2 := qv BK101.out 2
      have hfz15_3 := qv BK101.out 3
      have hfz15_4 := qv BK101.out 4
      have hfz15_5 := qv BK101.out 5
      have hfz15_6 := qv BK101.out 6
      go_wp2
      go_ret
      exact ⟨by first | rfl | (simp [*,jk,jj] <;> rfl),by repeat (first | (with_reducible first | exact HB.out | apply qj | apply qz | apply qk | refine qx ?_ GE101.out) | exact HB.out)⟩
     ·rw [if_neg c14] at H
      have c14b0 : (a0_3 == 2) = false := beq_eq_false_iff_ne.mpr c14
      have c14b1 : (a0_3 != 2) = true := bne_iff_ne.mpr c14
      by_cases c16 : a0_3 = 3
      ·rw [if_pos c16] at H
       have c16b0 : (a0_3 == 3) = true := beq_iff_eq.mpr c16
       have c16b1 : (a0_3 != 3) = false := bne_eq_false_iff_eq.mpr c16
       clear c16
       obtain rfl := Option.some.inj H
       have hcz17_0 : wc.cell? ⟨gb101,0,none⟩ = some (.string a0_0) := (qw BK101.out 0).trans rfl
       have hcz17_1 : wc.cell? ⟨gb101,1,none⟩ = some (.int .i64 a0_1) := (qw BK101.out 1).trans rfl
       have hcz17_2 : wc.cell? ⟨gb101,2,none⟩ = some (.string a0_2) := (qw BK101.out 2).trans rfl
       have hcz17_3 : wc.cell? ⟨gb101,3,none⟩ = some (.int .i64 a0_3) := (qw BK101.out 3).trans rfl
       have hcz17_4 : wc.cell? ⟨gb101,4,none⟩ = some (.int .i64 a0_4) := (qw BK101.out 4).trans rfl
       have hcz17_5 : wc.cell? ⟨gb101,5,none⟩ = some (.string a0_5) := (qw BK101.out 5).trans rfl
       have hcz17_6 : wc.cell? ⟨gb101,6,none⟩ = some (.string a0_6) := (qw BK101.out 6).trans rfl
       have hfz17_0 := qv BK101.out 0
       have hfz17_1 := qv BK101.out 1
       have hfz17_2 := qv BK101.out 2
       have hfz17_3 := qv BK101.out 3
       have hfz17_4 := qv BK101.out 4
       have hfz17_5 := qv BK101.out 5
       have hfz17_6 := qv BK101.out 6
       go_wp2
       go_ret
       exact ⟨by first | rfl | (simp [*,jk,jj] <;> rfl),by repeat (first | (with_reducible first | exact HB.out | apply qj | apply qz | apply qk | refine qx ?_ GE101.out) | exact HB.out)⟩
      ·rw [if_neg c16] at H
       have c16b0 : (a0_3 == 3) = false := beq_eq_false_iff_ne.mpr c16
       have c16b1 : (a0_3 != 3) = true := bne_iff_ne.mpr c16
       by_cases c18 : a0_3 = 5
       ·rw [if_pos c18] at H
        have c18b0 : (a0_3 == 5) = true := beq_iff_eq.mpr c18
        have c18b1 : (a0_3 != 5) = false := bne_eq_false_iff_eq.mpr c18
        clear c18
        obtain rfl := Option.some.inj H
        have hcz19_0 : wc.cell? ⟨gb101,0,none⟩ = some (.string a0_0) := (qw BK101.out 0).trans rfl
        have hcz19_1 : wc.cell? ⟨gb101,1,none⟩ = some (.int .i64 a0_1) := (qw BK101.out 1).trans rfl
        have hcz19_2 : wc.cell? ⟨gb101,2,none⟩ = some (.string a0_2) := (qw BK101.out 2).trans rfl
        have hcz19_3 : wc.cell? ⟨gb101,3,none⟩ = some (.int .i64 a0_3) := (qw BK101.out 3).trans rfl
        have hcz19_4 : wc.cell? ⟨gb101,4,none⟩ = some (.int .i64 a0_4) := (qw BK101.out 4).trans rfl
        have hcz19_5 : wc.cell? ⟨gb101,5,none⟩ = some (.string a0_5) := (qw BK101.out 5).trans rfl
        have hcz19_6 : wc.cell? ⟨gb101,6,none⟩ = some (.string a0_6) := (qw BK101.out 6).trans rfl
        have hfz19_0 := qv BK101.out 0
        have hfz19_1 := qv BK101.out 1
        have hfz19_2 := qv BK101.out 2
        have hfz19_3 := qv BK101.out 3
        have hfz19_4 := qv BK101.out 4
        have hfz19_5 := qv BK101.out 5
        have hfz19_6 := qv BK101.out 6
        go_wp2
        go_ret
        exact ⟨by first | rfl | (simp [*,jk,jj] <;> rfl),by repeat (first | (with_reducible first | exact HB.out | apply qj | apply qz | apply qk | refine qx ?_ GE101.out) | exact HB.out)⟩
       ·rw [if_neg c18] at H
        have c18b0 : (a0_3 == 5) = false := beq_eq_false_iff_ne.mpr c18
        have c18b1 : (a0_3 != 5) = true := bne_iff_ne.mpr c18
        obtain rfl := Option.some.inj H
        have hcz20_0 : wc.cell? ⟨gb101,0,none⟩ = some (.string a0_0) := (qw BK101.out 0).trans rfl
        have hcz20_1 : wc.cell? ⟨gb101,1,none⟩ = some (.int .i64 a0_1) := (qw BK101.out 1).trans rfl
        have hcz20_2 : wc.cell? ⟨gb101,2,none⟩ = some (.string a0_2) := (qw BK101.out 2).trans rfl
        have hcz20_3 : wc.cell? ⟨gb101,3,none⟩ = some (.int .i64 a0_3) := (qw BK101.out 3).trans rfl
        have hcz20_4 : wc.cell? ⟨gb101,4,none⟩ = some (.int .i64 a0_4) := (qw BK101.out 4).trans rfl
        have hcz20_5 : wc.cell? ⟨gb101,5,none⟩ = some (.string a0_5) := (qw BK101.out 5).trans rfl
        have hcz20_6 : wc.cell? ⟨gb101,6,none⟩ = some (.string a0_6) := (qw BK101.out 6).trans rfl
        have hfz20_0 := qv BK101.out 0
        have hfz20_1 := qv BK101.out 1
        have hfz20_2 := qv BK101.out 2
        have hfz20_3 := qv BK101.out 3
        have hfz20_4 := qv BK101.out 4
        have hfz20_5 := qv BK101.out 5
        have hfz20_6 := qv BK101.out 6
        go_wp2
        go_ret
        exact ⟨by first | rfl | (simp [*,jk,jj] <;> rfl),by repeat (first | (with_reducible first | exact HB.out | apply qj | apply qz | apply qk | refine qx ?_ GE101.out) | exact HB.out)⟩
    ·rw [if_neg c13] at H
     have c13b0 : (a0_1 == 1) = false := beq_eq_false_iff_ne.mpr c13
     have c13b1 : (a0_1 != 1) = true := bne_iff_ne.mpr c13
     by_cases c21 : a0_1 = 2
     ·rw [if_pos c21] at H
      have c21b0 : (a0_1 == 2) = true := beq_iff_eq.mpr c21
      have c21b1 : (a0_1 != 2) = false := bne_eq_false_iff_eq.mpr c21
      clear c21
      by_cases c22 : a0_3 = 2
      ·rw [if_pos c22] at H
       have c22b0 : (a0_3 == 2) = true := beq_iff_eq.mpr c22
       have c22b1 : (a0_3 != 2) = false := bne_eq_false_iff_eq.mpr c22
       clear c22
       obtain rfl := Option.some.inj H
       have hcz23_0 : wc.cell? ⟨gb101,0,none⟩ = some (.string a0_0) := (qw BK101.out 0).trans rfl
       have hcz23_1 : wc.cell? ⟨gb101,1,none⟩ = some (.int .i64 a0_1) := (qw BK101.out 1).trans rfl
       have hcz23_2 : wc.cell? ⟨gb101,2,none⟩ = some (.string a0_2) := (qw BK101.out 2).trans rfl
       have hcz23_3 : wc.cell? ⟨gb101,3,none⟩ = some (.int .i64 a0_3) := (qw BK101.out 3).trans rfl
       have hcz23_4 : wc.cell? ⟨gb101,4,none⟩ = some (.int .i64 a0_4) := (qw BK101.out 4).trans rfl
       have hcz23_5 : wc.cell? ⟨gb101,5,none⟩ = some (.string a0_5) := (qw BK101.out 5).trans rfl
       have hcz23_6 : wc.cell? ⟨gb101,6,none⟩ = some (.string a0_6) := (qw BK101.out 6).trans rfl
       have hfz23_0 := qv BK101.out 0
       have hfz23_1 := qv BK101.out 1
       have hfz23_2 := qv BK101.out 2
       have hfz23_3 := qv BK101.out 3
       have hfz23_4 := qv BK101.out 4
       have hfz23_5 := qv BK101.out 5
       have hfz23_6 := qv BK101.out 6
       go_wp2
       go_ret
       exact ⟨by first | rfl | (simp [*,jk,jj] <;> rfl),by repeat (first | (with_reducible first | exact HB.out | apply qj | apply qz | apply qk | refine qx ?_ GE101.out) | exact HB.out)⟩
      ·rw [if_neg c22] at H
       have c22b0 : (a0_3 == 2) = false := beq_eq_false_iff_ne.mpr c22
       have c22b1 : (a0_3 != 2) = true := bne_iff_ne.mpr c22
       by_cases c24 : a0_3 = 3
       ·rw [if_pos c24] at H
        have c24b0 : (a0_3 == 3) = true := beq_iff_eq.mpr c24
        have c24b1 : (a0_3 != 3) = false := bne_eq_false_iff_eq.mpr c24
        clear c24
        obtain rfl := Option.some.inj H
        have hcz25_0 : wc.cell? ⟨gb101,0,none⟩ = some (.string a0_0) := (qw BK101.out 0).trans rfl
        have hcz25_1 : wc.cell? ⟨gb101,1,none⟩ = some (.int .i64 a0_1) := (qw BK101.out 1).trans rfl
        have hcz25_2 : wc.cell? ⟨gb101,2,none⟩ = some (.string a0_2) := (qw BK101.out 2).trans rfl
        have hcz25_3 : wc.cell? ⟨gb101,3,none⟩ = some (.int .i64 a0_3) := (qw BK101.out 3).trans rfl
        have hcz25_4 : wc.cell? ⟨gb101,4,none⟩ = some (.int .i64 a0_4) := (qw BK101.out 4).trans rfl
        have hcz25_5 : wc.cell? ⟨gb101,5,none⟩ = some (.string a0_5) := (qw BK101.out 5).trans rfl
        have hcz25_6 : wc.cell? ⟨gb101,6,none⟩ = some (.string a0_6) := (qw BK101.out 6).trans rfl
        have hfz25_0 := qv BK101.out 0
        have hfz25_1 := qv BK101.out 1
        have hfz25_2 := qv BK101.out 2
        have hfz25_3 := qv BK101.out 3
        have hfz25_4 := qv BK101.out 4
        have hfz25_5 := qv BK101.out 5
        have hfz25_6 := qv BK101.out 6
        go_wp2
        go_ret
        exact ⟨by first | rfl | (simp [*,jk,jj] <;> rfl),by repeat (first | (with_reducible first | exact HB.out | apply qj | apply qz | apply qk | refine qx ?_ GE101.out) | exact HB.out)⟩
       ·rw [if_neg c24] at H
        have c24b0 : (a0_3 == 3) = false := beq_eq_false_iff_ne.mpr c24
        have c24b1 : (a0_3 != 3) = true := bne_iff_ne.mpr c24
        by_cases c26 : a0_3 = 5
        ·rw [if_pos c26] at H
         have c26b0 : (a0_3 == 5) = true := beq_iff_eq.mpr c26
         have c26b1 : (a0_3 != 5) = false := bne_eq_false_iff_eq.mpr c26
         clear c26
         obtain rfl := Option.some.inj H
         have hcz27_0 : wc.cell? ⟨gb101,0,none⟩ = some (.string a0_0) := (qw BK101.out 0).trans rfl
         have hcz27_1 : wc.cell? ⟨gb101,1,none⟩ = some (.int .i64 a0_1) := (qw BK101.out 1).trans rfl
         have hcz27_2 : wc.cell? ⟨gb101,2,none⟩ = some (.string a0_2) := (qw BK101.out 2).trans rfl
         have hcz27_3 : wc.cell? ⟨gb101,3,none⟩ = some (.int .i64 a0_3) := (qw BK101.out 3).trans rfl
         have hcz27_4 : wc.cell? ⟨gb101,4,none⟩ = some (.int .i64 a0_4) := (qw BK101.out 4).trans rfl
         have hcz27_5 : wc.cell? ⟨gb101,5,none⟩ = some (.string a0_5) := (qw BK101.out 5).trans rfl
         have hcz27_6 : wc.cell? ⟨gb101,6,none⟩ = some (.string a0_6) := (qw BK101.out 6).trans rfl
         have hfz27_0 := qv BK101.out 0
         have hfz27_1 := qv BK101.out 1
         have hfz27_2 := qv BK101.out 2
         have hfz27_3 := qv BK101.out 3
         have hfz27_4 := qv BK101.out 4
         have hfz27_5 := qv BK101.out 5
         have hfz27_6 := qv BK101.out 6
         go_wp2
         go_ret
         exact ⟨by first | rfl | (simp [*,jk,jj] <;> rfl),by repeat (first | (with_reducible first | exact HB.out | apply qj | apply qz | apply qk | refine qx ?_ GE101.out) | exact HB.out)⟩
        ·rw [if_neg c26] at H
         have c26b0 : (a0_3 == 5) = false := beq_eq_false_iff_ne.mpr c26
         have c26b1 : (a0_3 != 5) = true := bne_iff_ne.mpr c26
         obtain rfl := Option.some.inj H
         have hcz28_0 : wc.cell? ⟨gb101,0,none⟩ = some (.string a0_0) := (qw BK101.out 0).trans rfl
         have hcz28_1 : wc.cell? ⟨gb101,1,none⟩ = some (.int .i64 a0_1) := (qw BK101.out 1).trans rfl
         have hcz28_2 : wc.cell? ⟨gb101,2,none⟩ = some (.string a0_2) := (qw BK101.out 2).trans rfl
         have hcz28_3 : wc.cell? ⟨gb101,3,none⟩ = some (.int .i64 a0_3) := (qw BK101.out 3).trans rfl
         have hcz28_4 : wc.cell? ⟨gb101,4,none⟩ = some (.int .i64 a0_4) := (qw BK101.out 4).trans rfl
         have hcz28_5 : wc.cell? ⟨gb101,5,none⟩ = some (.string a0_5) := (qw BK101.out 5).trans rfl
         have hcz28_6 : wc.cell? ⟨gb101,6,none⟩ = some (.string a0_6) := (qw BK101.out 6).trans rfl
         have hfz28_0 := qv BK101.out 0
         have hfz28_1 := qv BK101.out 1
         have hfz28_2 := qv BK101.out 2
         have hfz28_3 := qv BK101.out 3
         have hfz28_4 := qv BK101.out 4
         have hfz28_5 := qv BK101.out 5
         have hfz28_6 := qv BK101.out 6
         go_wp2
         go_ret
         exact ⟨by first | rfl | (simp [*,jk,jj] <;> rfl),by repeat (first | (with_reducible first | exact HB.out | apply qj | apply qz | apply qk | refine qx ?_ GE101.out) | exact HB.out)⟩
     ·rw [if_neg c21] at H
      have c21b0 : (a0_1 == 2) = false := beq_eq_false_iff_ne.mpr c21
      have c21b1 : (a0_1 != 2) = true := bne_iff_ne.mpr c21
      by_cases c29 : a0_1 = 3
      ·rw [if_pos c29] at H
       have c29b0 : (a0_1 == 3) = true := beq_iff_eq.mpr c29
       have c29b1 : (a0_1 != 3) = false := bne_eq_false_iff_eq.mpr c29
       clear c29
       by_cases c30 : a0_3 = 2
       ·rw [if_pos c30] at H
        have c30b0 : (a0_3 == 2) = true := beq_iff_eq.mpr c30
        have c30b1 : (a0_3 != 2) = false := bne_eq_false_iff_eq.mpr c30
        clear c30
        obtain rfl := Option.some.inj H
        have hcz31_0 : wc.cell? ⟨gb101,0,none⟩ = some (.string a0_0) := (qw BK101.out 0).trans rfl
        have hcz31_1 : wc.cell? ⟨gb101,1,none⟩ = some (.int .i64 a0_1) := (qw BK101.out 1).trans rfl
        have hcz31_2 : wc.cell? ⟨gb101,2,none⟩ = some (.string a0_2) := (qw BK101.out 2).trans rfl
        have hcz31_3 : wc.cell? ⟨gb101,3,none⟩ = some (.int .i64 a0_3) := (qw BK101.out 3).trans rfl
        have hcz31_4 : wc.cell? ⟨gb101,4,none⟩ = some (.int .i64 a0_4) := (qw BK101.out 4).trans rfl
        have hcz31_5 : wc.cell? ⟨gb101,5,none⟩ = some (.string a0_5) := (qw BK101.out 5).trans rfl
        have hcz31_6 : wc.cell? ⟨gb101,6,none⟩ = some (.string a0_6) := (qw BK101.out 6).trans rfl
        have hfz31_0 := qv BK101.out 0
        have hfz31_1 := qv BK101.out 1
        have hfz31_2 := qv BK101.out 2
        have hfz31_3 := qv BK101.out 3
        have hfz31_4 := qv BK101.out 4
        have hfz31_5 := qv BK101.out 5
        have hfz31_6 := qv BK101.out 6
        go_wp2
        go_ret
        exact ⟨by first | rfl | (simp [*,jk,jj] <;> rfl),by repeat (first | (with_reducible first | exact HB.out | apply qj | apply qz | apply qk | refine qx ?_ GE101.out) | exact HB.out)⟩
       ·rw [if_neg c30] at H
        have c30b0 : (a0_3 == 2) = false := beq_eq_false_iff_ne.mpr c30
        have c30b1 : (a0_3 != 2) = true := bne_iff_ne.mpr c30
        by_cases c32 : a0_3 = 3
        ·rw [if_pos c32] at H
         have c32b0 : (a0_3 == 3) = true := beq_iff_eq.mpr c32
         have c32b1 : (a0_3 != 3) = false := bne_eq_false_iff_eq.mpr c32
         clear c32
         obtain rfl := Option.some.inj H
         have hcz33_0 : wc.cell? ⟨gb101,0,none⟩ = some (.string a0_0) := (qw BK101.out 0).trans rfl
         have hcz33_1 : wc.cell? ⟨gb101,1,none⟩ = some (.int .i64 a0_1) := (qw BK101.out 1).trans rfl
         have hcz33_2 : wc.cell? ⟨gb101,2,none⟩ = some (.string a0_2) := (qw BK101.out 2).trans rfl
         have hcz33_3 : wc.cell? ⟨gb101,3,none⟩ = some (.int .i64 a0_3) := (qw BK101.out 3).trans rfl
         have hcz33_4 : wc.cell? ⟨gb101,4,none⟩ = some (.int .i64 a0_4) := (qw BK101.out 4).trans rfl
         have hcz33_5 : wc.cell? ⟨gb101,5,none⟩ = some (.string a0_5) := (qw BK101.out 5).trans rfl
         have hcz33_6 : wc.cell? ⟨gb101,6,none⟩ = some (.string a0_6) := (qw BK101.out 6).trans rfl
         have hfz33_0 := qv BK101.out 0
         have hfz33_1 := qv BK101.out 1
         have hfz33_2 := qv BK101.out 2
         have hfz33_3 := qv BK101.out 3
         have hfz33_4 := qv BK101.out 4
         have hfz33_5 := qv BK101.out 5
         have hfz33_6 := qv BK101.out 6
         go_wp2
         go_ret
         exact ⟨by first | rfl | (simp [*,jk,jj] <;> rfl),by repeat (first | (with_reducible first | exact HB.out | apply qj | apply qz | apply qk | refine qx ?_ GE101.out) | exact HB.out)⟩
        ·rw [if_neg c32] at H
         have c32b0 : (a0_3 == 3) = false := beq_eq_false_iff_ne.mpr c32
         have c32b1 : (a0_3 != 3) = true := bne_iff_ne.mpr c32
         by_cases c34 : a0_3 = 5
         ·rw [if_pos c34] at H
          have c34b0 : (a0_3 == 5) = true := beq_iff_eq.mpr c34
          have c34b1 : (a0_3 != 5) = false := bne_eq_false_iff_eq.mpr c34
          clear c34
          obtain rfl := Option.some.inj H
          have hcz35_0 : wc.cell? ⟨gb101,0,none⟩ = some (.string a0_0) := (qw BK101.out 0).trans rfl
          have hcz35_1 : wc.cell? ⟨gb101,1,none⟩ = some (.int .i64 a0_1) := (qw BK101.out 1).trans rfl
          have hcz35_2 : wc.cell? ⟨gb101,2,none⟩ = some (.string a0_2) := (qw BK101.out 2).trans rfl
          have hcz35_3 : wc.cell? ⟨gb101,3,none⟩ = some (.int .i64 a0_3) := (qw BK101.out 3).trans rfl
          have hcz35_4 : wc.cell? ⟨gb101,4,none⟩ = some (.int .i64 a0_4) := (qw BK101.out 4).trans rfl
          have hcz35_5 : wc.cell? ⟨gb101,5,none⟩ = some (.string a0_5) := (qw BK101.out 5).trans rfl
          have hcz35_6 : wc.cell? ⟨gb101,6,none⟩ = some (.string a0_6) := (qw BK101.out 6).trans rfl
          have hfz35_0 := qv BK101.out 0
          have hfz35_1 := qv BK101.out 1
          have hfz35_2 := qv BK101.out 2
          have hfz35_3 := qv BK101.out 3
          have hfz35_4 := qv BK101.out 4
          have hfz35_5 := qv BK101.out 5
          have hfz35_6 := qv BK101.out 6
          go_wp2
          go_ret
          exact ⟨by first | rfl | (simp [*,jk,jj] <;> rfl),by repeat (first | (with_reducible first | exact HB.out | apply qj | apply qz | apply qk | refine qx ?_ GE101.out) | exact HB.out)⟩
         ·rw [if_neg c34] at H
          have c34b0 : (a0_3 == 5) = false := beq_eq_false_iff_ne.mpr c34
          have c34b1 : (a0_3 != 5) = true := bne_iff_ne.mpr c34
          obtain rfl := Option.some.inj H
          have hcz36_0 : wc.cell? ⟨gb101,0,none⟩ = some (.string a0_0) := (qw BK101.out 0).trans rfl
          have hcz36_1 : wc.cell? ⟨gb101,1,none⟩ = some (.int .i64 a0_1) := (qw BK101.out 1).trans rfl
          have hcz36_2 : wc.cell? ⟨gb101,2,none⟩ = some (.string a0_2) := (qw BK101.out 2).trans rfl
          have hcz36_3 : wc.cell? ⟨gb101,3,none⟩ = some (.int .i64 a0_3) := (qw BK101.out 3).trans rfl
          have hcz36_4 : wc.cell? ⟨gb101,4,none⟩ = some (.int .i64 a0_4) := (qw BK101.out 4).trans rfl
          have hcz36_5 : wc.cell? ⟨gb101,5,none⟩ = some (.string a0_5) := (qw BK101.out 5).trans rfl
          have hcz36_6 : wc.cell? ⟨gb101,6,none⟩ = some (.string a0_6) := (qw BK101.out 6).trans rfl
          have hfz36_0 := qv BK101.out 0
          have hfz36_1 := qv BK101.out 1
          have hfz36_2 := qv BK101.out 2
          have hfz36_3 := qv BK101.out 3
          have hfz36_4 := qv BK101.out 4
          have hfz36_5 := qv BK101.out 5
          have hfz36_6 := qv BK101.out 6
          go_wp2
          go_ret
          exact ⟨by first | rfl | (simp [*,jk,jj] <;> rfl),by repeat (first | (with_reducible first | exact HB.out | apply qj | apply qz | apply qk | refine qx ?_ GE101.out) | exact HB.out)⟩
      ·rw [if_neg c29] at H
       have c29b0 : (a0_1 == 3) = false := beq_eq_false_iff_ne.mpr c29
       have c29b1 : (a0_1 != 3) = true := bne_iff_ne.mpr c29
       by_cases c37 : a0_1 = 4
       ·rw [if_pos c37] at H
        have c37b0 : (a0_1 == 4) = true := beq_iff_eq.mpr c37
        have c37b1 : (a0_1 != 4) = false := bne_eq_false_iff_eq.mpr c37
        clear c37
        obtain rfl := Option.some.inj H
        have hcz38_0 : wc.cell? ⟨gb101,0,none⟩ = some (.string a0_0) := (qw BK101.out 0).trans rfl
        have hcz38_1 : wc.cell? ⟨gb101,1,none⟩ = some (.int .i64 a0_1) := (qw BK101.out 1).trans rfl
        have hcz38_2 : wc.cell? ⟨gb101,2,none⟩ = some (.string a0_2) := (qw BK101.out 2).trans rfl
        have hcz38_3 : wc.cell? ⟨gb101,3,none⟩ = some (.int .i64 a0_3) := (qw BK101.out 3).trans rfl
        have hcz38_4 : wc.cell? ⟨gb101,4,none⟩ = some (.int .i64 a0_4) := (qw BK101.out 4).trans rfl
        have hcz38_5 : wc.cell? ⟨gb101,5,none⟩ = some (.string a0_5) := (qw BK101.out 5).trans rfl
        have hcz38_6 : wc.cell? ⟨gb101,6,none⟩ = some (.string a0_6) := (qw BK101.out 6).trans rfl
        have hfz38_0 := qv BK101.out 0
        have hfz38_1 := qv BK101.out 1
        have hfz38_2 := qv BK101.out 2
        have hfz38_3 := qv BK101.out 3
        have hfz38_4 := qv BK101.out 4
        have hfz38_5 := qv BK101.out 5
        have hfz38_6 := qv BK101.out 6
        go_wp2
        go_ret
        exact ⟨by first | rfl | (simp [*,jk,jj] <;> rfl),by repeat (first | (with_reducible first | exact HB.out | apply qj | apply qz | apply qk | refine qx ?_ GE101.out) | exact HB.out)⟩
       ·rw [if_neg c37] at H
        have c37b0 : (a0_1 == 4) = false := beq_eq_false_iff_ne.mpr c37
        have c37b1 : (a0_1 != 4) = true := bne_iff_ne.mpr c37
        obtain rfl := Option.some.inj H
        have hcz39_0 : wc.cell? ⟨gb101,0,none⟩ = some (.string a0_0) := (qw BK101.out 0).trans rfl
        have hcz39_1 : wc.cell? ⟨gb101,1,none⟩ = some (.int .i64 a0_1) := (qw BK101.out 1).trans rfl
        have hcz39_2 : wc.cell? ⟨gb101,2,none⟩ = some (.string a0_2) := (qw BK101.out 2).trans rfl
        have hcz39_3 : wc.cell? ⟨gb101,3,none⟩ = some (.int .i64 a0_3) := (qw BK101.out 3).trans rfl
        have hcz39_4 : wc.cell? ⟨gb101,4,none⟩ = some (.int .i64 a0_4) := (qw BK101.out 4).trans rfl
        have hcz39_5 : wc.cell? ⟨gb101,5,none⟩ = some (.string a0_5) := (qw BK101.out 5).trans rfl
        have hcz39_6 : wc.cell? ⟨gb101,6,none⟩ = some (.string a0_6) := (qw BK101.out 6).trans rfl
        have hfz39_0 := qv BK101.out 0
        have hfz39_1 := qv BK101.out 1
        have hfz39_2 := qv BK101.out 2
        have hfz39_3 := qv BK101.out 3
        have hfz39_4 := qv BK101.out 4
        have hfz39_5 := qv BK101.out 5
        have hfz39_6 := qv BK101.out 6
        go_wp2
        go_ret
        exact ⟨by first | rfl | (simp [*,jk,jj] <;> rfl),by repeat (first | (with_reducible first | exact HB.out | apply qj | apply qz | apply qk | refine qx ?_ GE101.out) | exact HB.out)⟩
end Go.Proofs.YtnbbbjfjkhglhaaGreatDoor.Pr
namespace Go.Proofs.YtnbbbjfjkhglhaaGreatDoor.Pr
open Go.RowKit Go.Proofs.YtnbbbjfjkhglhaaGreatDoorW.PrintWords Go.Proofs.YtnbbbjfjkhglhaaGreatDoorW.PrintLast Go.Proofs.YtnbbbjfjkhglhaaGreatDoorW.PrintMore
attribute [local go_sem] max2_int min2_int max_two min_two max_three min_three max_four min_four
set_option linter.unusedVariables false
set_option linter.unusedSimpArgs false
def qvx.l0 : Nat → ByteArray → Int → Option (Bool)
 | 0,_,_ => none
 | k + 1,x0,x3 => if x3 < (x0.size : Int) then (if 0 ≤ x3 then ((qkk.f (bt x0 x3)).bind fun t101 => (if t101 = true then (qvx.l0 k x0 (wrap64 (x3 + 1))) else ((qkj.f (bt x0 x3)).bind fun t102 => (if t102 = true then (qvx.l0 k x0 (wrap64 (x3 + 1))) else (if (bt x0 x3) = 95 then (qvx.l0 k x0 (wrap64 (x3 + 1))) else (if (bt x0 x3) = 45 then (qvx.l0 k x0 (wrap64 (x3 + 1))) else (if (bt x0 x3) = 46 then (qvx.l0 k x0 (wrap64 (x3 + 1))) else (some false)))))))) else (none)) else (if (x0.size : Int) ≥ 1 then (some (decide ((x0.size : Int) ≤ 40))) else (some false))
def qvx.f (k : Nat) (a0 : ByteArray) : Option (Bool) := qvx.l0 k a0 0
set_option maxHeartbeats 8000000 in
set_option maxRecDepth 100000 in
theorem qvx.calls (k : Nat) (a0 : ByteArray) (r : Bool) (w : World) (h : qvx.f k a0 = some r) :
  Calls Tryz.prog 58 #[.string a0] w fun e w' => e = .returned (.bool r) ∧ Drawn0 w w' := by
 have H : (qvx.l0 k a0 0) = some r := h
 clear h
 have H' := qq.mk H
 clear H
 go_enter Tryz.func58,Tryz.ntmps58
 go_wp2
 go_loopg [3] k (fun kq v3 w' => ∃ (x3_1 : Int),v3 = .int .i64 x3_1 ∧ qq (qvx.l0 kq a0 x3_1 = some r) ∧ qq (kq ≤ k) ∧ Drawn0 w w')
 case atStart => exact ⟨(0),(by first | rfl | (simp;done) | (simp [*];done)),H',⟨Nat.le_refl _⟩,by repeat (first | exact Drawn0.refl _ | apply Drawn0.step)⟩
 case round =>
  clear H'
  obtain ⟨x3_1,rfl,HA,HK1,⟨m1,rfl⟩⟩ := hrel
  cases gk with
  | zero => exact absurd HA.out (by simp [qvx.l0])
  | succ k1 =>
   have H := HA.out
   clear HA
   simp only [qvx.l0] at H
   by_cases c2 : x3_1 < (a0.size : Int)
   ·rw [if_pos c2] at H
    have c2b0 : decide (x3_1 < (a0.size : Int)) = true := decide_eq_true c2
    clear c2
    by_cases c3 : 0 ≤ x3_1
    ·rw [if_pos c3] at H
     have c3b0 : decide (0 ≤ x3_1) = true := decide_eq_true c3
     clear c3
     replace H := Option.bind_eq_some_iff.mp H
     obtain ⟨t101,A50,H⟩ := H
     replace H : (if t101 = true then (qvx.l0 k1 a0 (wrap64 (x3_1 + 1))) else ((qkj.f (bt a0 x3_1)).bind fun t102 => (if t102 = true then (qvx.l0 k1 a0 (wrap64 (x3_1 + 1))) else (if (bt a0 x3_1) = 95 then (qvx.l0 k1 a0 (wrap64 (x3_1 + 1))) else (if (bt a0 x3_1) = 45 then (qvx.l0 k1 a0 (wrap64 (x3_1 + 1))) else (if (bt a0 x3_1) = 46 then (qvx.l0 k1 a0 (wrap64 (x3_1 + 1))) else (some false))))))) = some r := H
     have A5 := qq.mk A50
     clear A50
     by_cases c6 : t101 = true
     ·subst c6
      have H1 : (qvx.l0 k1 a0 (wrap64 (x3_1 + 1))) = some r := by rw [if_pos rfl] at H;exact H
      clear H
      have H := H1
      clear H1
      have H' := qq.mk H
      clear H
      have p4 : 0 ≤ (x3_1 : Int) := of_decide_eq_true (by assumption)
      have q4 : x3_1 < (a0.size : Int) := of_decide_eq_true (by assumption)
      have hx4 := bt_at a0 x3_1
      replace p4 := eq_true p4
      replace q4 := eq_true q4
      go_wp2_with (first | ((with_reducible refine jv (f := 71) rfl ?_);refine goesL_ (some 13) rfl rfl Tryz.func71 (by kernel_rfl) rfl #[.int .u8 (bt a0 x3_1)] rfl (by (try simp only [List.map_toArray,List.map_cons,List.map_nil]);first | done | rfl | (simp only [List.length_drop,List.length_take];rfl)) ?_;(with_reducible refine (qkk.calls (bt a0 x3_1) true _ A5.out).mono ?_);rintro e w' ⟨rfl,⟨nd,rfl⟩⟩;refine ⟨_,rfl,?_⟩))
      go_roundg k1
      case measure => have := HK1.out;omega
      case rel => exact ⟨(wrap64 (x3_1 + 1)),(by first | rfl | (simp;done) | (simp [*];done)),H',⟨by have := HK1.out;omega⟩,by repeat (first | exact Drawn0.refl _ | apply Drawn0.step)⟩
     ·replace c6 := Bool.eq_false_iff.mpr c6
      subst c6
      have H1 : ((qkj.f (bt a0 x3_1)).bind fun t102 => (if t102 = true then (qvx.l0 k1 a0 (wrap64 (x3_1 + 1))) else (if (bt a0 x3_1) = 95 then (qvx.l0 k1 a0 (wrap64 (x3_1 + 1))) else (if (bt a0 x3_1) = 45 then (qvx.l0 k1 a0 (wrap64 (x3_1 + 1))) else (if (bt a0 x3_1) = 46 then (qvx.l0 k1 a0 (wrap64 (x3_1 + 1))) else (some false)))))) = some r := by rw [if_neg (show ¬ (false = true) by decide)] at H;exact H
      clear H
      have H := H1
      clear H1
      replace H := Option.bind_eq_some_iff.mp H
      obtain ⟨t102,A80,H⟩ := H
      replace H : (if t102 = true then (qvx.l0 k1 a0 (wrap64 (x3_1 + 1))) else (if (bt a0 x3_1) = 95 then (qvx.l0 k1 a0 (wrap64 (x3_1 + 1))) else (if (bt a0 x3_1) = 45 then (qvx.l0 k1 a0 (wrap64 (x3_1 + 1))) else (if (bt a0 x3_1) = 46 then (qvx.l0 k1 a0 (wrap64 (x3_1 + 1))) else (some false))))) = some r := H
      have A8 := qq.mk A80
      clear A80
      by_cases c9 : t102 = true
      ·subst c9
       have H1 : (qvx.l0 k1 a0 (wrap64 (x3_1 + 1))) = some r := by rw [if_pos rfl] at H;exact H
       clear H
       have H := H1
       clear H1
       have H' := qq.mk H
       clear H
       have p4 : 0 ≤ (x3_1 : Int) := of_decide_eq_true (by assumption)
       have q4 : x3_1 < (a0.size : Int) := of_decide_eq_true (by assumption)
       have hx4 := bt_at a0 x3_1
       replace p4 := eq_true p4
       replace q4 := eq_true q4
       go_wp2_with (first | ((with_reducible refine jv (f := 71) rfl ?_);refine goesL_ (some 13) rfl rfl Tryz.func71 (by kernel_rfl) rfl #[.int .u8 (bt a0 x3_1)] rfl (by (try simp only [List.map_toArray,List.map_cons,List.map_nil]);first | done | rfl | (simp only [List.length_drop,List.length_take];rfl)) ?_;(with_reducible refine (qkk.calls (bt a0 x3_1) false _ A5.out).mono ?_);rintro e w' ⟨rfl,⟨nd,rfl⟩⟩;refine ⟨_,rfl,?_⟩;have p7 : 0 ≤ (x3_1 : Int) := of_decide_eq_true (by assumption);have q7 : x3_1 < (a0.size : Int) := of_decide_eq_true (by assumption);have hx7 := bt_at a0 x3_1;replace p7 := eq_true p7;replace q7 := eq_true q7) | (go_at_call 70;(with_reducible refine (qkj.calls (bt a0 x3_1) true _ A8.out).mono ?_);rintro e w' ⟨rfl,⟨nd,rfl⟩⟩))
       go_roundg k1
       case measure => have := HK1.out;omega
       case rel => exact ⟨(wrap64 (x3_1 + 1)),(by first | rfl | (simp;done) | (simp [*];done)),H',⟨by have := HK1.out;omega⟩,by repeat (first | exact Drawn0.refl _ | apply Drawn0.step)⟩
      ·replace c9 := Bool.eq_false_iff.mpr c9
       subst c9
       have H1 : (if (bt a0 x3_1) = 95 then (qvx.l0 k1 a0 (wrap64 (x3_1 + 1))) else (if (bt a0 x3_1) = 45 then (qvx.l0 k1 a0 (wrap64 (x3_1 + 1))) else (if (bt a0 x3_1) = 46 then (qvx.l0 k1 a0 (wrap64 (x3_1 + 1))) else (some false)))) = some r := by rw [if_neg (show ¬ (false = true) by decide)] at H;exact H
       clear H
       have H := H1
       clear H1
       by_cases c11 : (bt a0 x3_1) = 95
       ·rw [if_pos c11] at H
        have c11b0 : ((bt a0 x3_1) == 95) = true := beq_iff_eq.mpr c11
        have c11b1 : ((bt a0 x3_1) != 95) = false := bne_eq_false_iff_eq.mpr c11
        clear c11
        have H' := qq.mk H
        clear H
        have p4 : 0 ≤ (x3_1 : Int) := of_decide_eq_true (by assumption)
        have q4 : x3_1 < (a0.size : Int) := of_decide_eq_true (by assumption)
        have hx4 := bt_at a0 x3_1
        replace p4 := eq_true p4
        replace q4 := eq_true q4
        go_wp2_with (first | ((with_reducible refine jv (f := 71) rfl ?_);refine goesL_ (some 13) rfl rfl Tryz.func71 (by kernel_rfl) rfl #[.int .u8 (bt a0 x3_1)] rfl (by (try simp only [List.map_toArray,List.map_cons,List.map_nil]);first | done | rfl | (simp only [List.length_drop,List.length_take];rfl)) ?_;(with_reducible refine (qkk.calls (bt a0 x3_1) false _ A5.out).mono ?_);rintro e w' ⟨rfl,⟨nd,rfl⟩⟩;refine ⟨_,rfl,?_⟩;have p7 : 0 ≤ (x3_1 : Int) := of_decide_eq_true (by assumption);have q7 : x3_1 < (a0.size : Int) := of_decide_eq_true (by assumption);have hx7 := bt_at a0 x3_1;replace p7 := eq_true p7;replace q7 := eq_true q7) | (go_at_call 70;(with_reducible refine (qkj.calls (bt a0 x3_1) false _ A8.out).mono ?_);rintro e w' ⟨rfl,⟨nd,rfl⟩⟩;have p10 : 0 ≤ (x3_1 : Int) := of_decide_eq_true (by assumption);have q10 : x3_1 < (a0.size : Int) := of_decide_eq_true (by assumption);have hx10 := bt_at a0 x3_1;replace p10 := eq_true p10;replace q10 := eq_true q10))
        go_roundg k1
        case measure => have := HK1.out;omega
        case rel => exact ⟨(wrap64 (x3_1 + 1)),(by first | rfl | (simp;done) | (simp [*];done)),H',⟨by have := HK1.out;omega⟩,by repeat (first | exact Drawn0.refl _ | apply Drawn0.step)⟩
       ·rw [if_neg c11] at H
        have c11b0 : ((bt a0 x3_1) == 95) = false := beq_eq_false_iff_ne.mpr c11
        have c11b1 : ((bt a0 x3_1) != 95) = true := bne_iff_ne.mpr c11
        by_cases c13 : (bt a0 x3_1) = 45
        ·rw [if_pos c13] at H
         have c13b0 : ((bt a0 x3_1) == 45) = true := beq_iff_eq.mpr c13
         have c13b1 : ((bt a0 x3_1) != 45) = false := bne_eq_false_iff_eq.mpr c13
         clear c13
         have H' := qq.mk H
         clear H
         have p4 : 0 ≤ (x3_1 : Int) := of_decide_eq_true (by assumption)
         have q4 : x3_1 < (a0.size : Int) := of_decide_eq_true (by assumption)
         have hx4 := bt_at a0 x3_1
         replace p4 := eq_true p4
         replace q4 := eq_true q4
         go_wp2_with (first | ((with_reducible refine jv (f := 71) rfl ?_);refine goesL_ (some 13) rfl rfl Tryz.func71 (by kernel_rfl) rfl #[.int .u8 (bt a0 x3_1)] rfl (by (try simp only [List.map_toArray,List.map_cons,List.map_nil]);first | done | rfl | (simp only [List.length_drop,List.length_take];rfl)) ?_;(with_reducible refine (qkk.calls (bt a0 x3_1) false _ A5.out).mono ?_);rintro e w' ⟨rfl,⟨nd,rfl⟩⟩;refine ⟨_,rfl,?_⟩;have p7 : 0 ≤ (x3_1 : Int) := of_decide_eq_true (by assumption);have q7 : x3_1 < (a0.size : Int) := of_decide_eq_true (by assumption);have hx7 := bt_at a0 x3_1;replace p7 := eq_true p7;replace q7 := eq_true q7) | (go_at_call 70;(with_reducible refine (qkj.calls (bt a0 x3_1) false _ A8.out).mono ?_);rintro e w' ⟨rfl,⟨nd,rfl⟩⟩;have p10 : 0 ≤ (x3_1 : Int) := of_decide_eq_true (by assumption);have q10 : x3_1 < (a0.size : Int) := of_decide_eq_true (by assumption);have hx10 := bt_at a0 x3_1;replace p10 := eq_true p10;replace q10 := eq_true q10;have p12 : 0 ≤ (x3_1 : Int) := of_decide_eq_true (by assumption);have q12 : x3_1 < (a0.size : Int) := of_decide_eq_true (by assumption);have hx12 := bt_at a0 x3_1;replace p12 := eq_true p12;replace q12 := eq_true q12))
         go_roundg k1
         case measure => have := HK1.out;omega
         case rel => exact ⟨(wrap64 (x3_1 + 1)),(by first | rfl | (simp;done) | (simp [*];done)),H',⟨by have := HK1.out;omega⟩,by repeat (first | exact Drawn0.refl _ | apply Drawn0.step)⟩
        ·rw [if_neg c13] at H
         have c13b0 : ((bt a0 x3_1) == 45) = false := beq_eq_false_iff_ne.mpr c13
         have c13b1 : ((bt a0 x3_1) != 45) = true := bne_iff_ne.mpr c13
         by_cases c15 : (bt a0 x3_1) = 46
         ·rw [if_pos c15] at H
          have c15b0 : ((bt a0 x3_1) == 46) = true := beq_iff_eq.mpr c15
          have c15b1 : ((bt a0 x3_1) != 46) = false := bne_eq_false_iff_eq.mpr c15
          clear c15
          have H' := qq.mk H
          clear H
          have p4 : 0 ≤ (x3_1 : Int) := of_decide_eq_true (by assumption)
          have q4 : x3_1 < (a0.size : Int) := of_decide_eq_true (by assumption)
          have hx4 := bt_at a0 x3_1
          replace p4 := eq_true p4
          replace q4 := eq_true q4
          go_wp2_with (first | ((with_reducible refine jv (f := 71) rfl ?_);refine goesL_ (some 13) rfl rfl Tryz.func71 (by kernel_rfl) rfl #[.int .u8 (bt a0 x3_1)] rfl (by (try simp only [List.map_toArray,List.map_cons,List.map_nil]);first | done | rfl | (simp only [List.length_drop,List.length_take];rfl)) ?_;(with_reducible refine (qkk.calls (bt a0 x3_1) false _ A5.out).mono ?_);rintro e w' ⟨rfl,⟨nd,rfl⟩⟩;refine ⟨_,rfl,?_⟩;have p7 : 0 ≤ (x3_1 : Int) := of_decide_eq_true (by assumption);have q7 : x3_1 < (a0.size : Int) := of_decide_eq_true (by assumption);have hx7 := bt_at a0 x3_1;replace p7 := eq_true p7;replace q7 := eq_true q7) | (go_at_call 70;(with_reducible refine (qkj.calls (bt a0 x3_1) false _ A8.out).mono ?_);rintro e w' ⟨rfl,⟨nd,rfl⟩⟩;have p10 : 0 ≤ (x3_1 : Int) := of_decide_eq_true (by assumption);have q10 : x3_1 < (a0.size : Int) := of_decide_eq_true (by assumption);have hx10 := bt_at a0 x3_1;replace p10 := eq_true p10;replace q10 := eq_true q10;have p12 : 0 ≤ (x3_1 : Int) := of_decide_eq_true (by assumption);have q12 : x3_1 < (a0.size : Int) := of_decide_eq_true (by assumption);have hx12 := bt_at a0 x3_1;replace p12 := eq_true p12;replace q12 := eq_true q12;have p14 : 0 ≤ (x3_1 : Int) := of_decide_eq_true (by assumption);have q14 : x3_1 < (a0.size : Int) := of_decide_eq_true (by assumption);have hx14 := bt_at a0 x3_1;replace p14 := eq_true p14;replace q14 := eq_true q14))
          go_roundg k1
          case measure => have := HK1.out;omega
          case rel => exact ⟨(wrap64 (x3_1 + 1)),(by first | rfl | (simp;done) | (simp [*];done)),H',⟨by have := HK1.out;omega⟩,by repeat (first | exact Drawn0.refl _ | apply Drawn0.step)⟩
         ·rw [if_neg c15] at H
          have c15b0 : ((bt a0 x3_1) == 46) = false := beq_eq_false_iff_ne.mpr c15
          have c15b1 : ((bt a0 x3_1) != 46) = true := bne_iff_ne.mpr c15
          obtain rfl := Option.some.inj H
          have p4 : 0 ≤ (x3_1 : Int) := of_decide_eq_true (by assumption)
          have q4 : x3_1 < (a0.size : Int) := of_decide_eq_true (by assumption)
          have hx4 := bt_at a0 x3_1
          replace p4 := eq_true p4
          replace q4 := eq_true q4
          go_wp2_with (first | ((with_reducible refine jv (f := 71) rfl ?_);refine goesL_ (some 13) rfl rfl Tryz.func71 (by kernel_rfl) rfl #[.int .u8 (bt a0 x3_1)] rfl (by (try simp only [List.map_toArray,List.map_cons,List.map_nil]);first | done | rfl | (simp only [List.length_drop,List.length_take];rfl)) ?_;(with_reducible refine (qkk.calls (bt a0 x3_1) false _ A5.out).mono ?_);rintro e w' ⟨rfl,⟨nd,rfl⟩⟩;refine ⟨_,rfl,?_⟩;have p7 : 0 ≤ (x3_1 : Int) := of_decide_eq_true (by assumption);have q7 : x3_1 < (a0.size : Int) := of_decide_eq_true (by assumption);have hx7 := bt_at a0 x3_1;replace p7 := eq_true p7;replace q7 := eq_true q7) | (go_at_call 70;(with_reducible refine (qkj.calls (bt a0 x3_1) false _ A8.out).mono ?_);rintro e w' ⟨rfl,⟨nd,rfl⟩⟩;have p10 : 0 ≤ (x3_1 : Int) := of_decide_eq_true (by assumption);have q10 : x3_1 < (a0.size : Int) := of_decide_eq_true (by assumption);have hx10 := bt_at a0 x3_1;replace p10 := eq_true p10;replace q10 := eq_true q10;have p12 : 0 ≤ (x3_1 : Int) := of_decide_eq_true (by assumption);have q12 : x3_1 < (a0.size : Int) := of_decide_eq_true (by assumption);have hx12 := bt_at a0 x3_1;replace p12 := eq_true p12;replace q12 := eq_true q12;have p14 : 0 ≤ (x3_1 : Int) := of_decide_eq_true (by assumption);have q14 : x3_1 < (a0.size : Int) := of_decide_eq_true (by assumption);have hx14 := bt_at a0 x3_1;replace p14 := eq_true p14;replace q14 := eq_true q14))
          go_ret
          exact ⟨by first | rfl | (simp;done) | (simp [*];done),by repeat (first | exact Drawn0.refl _ | apply Drawn0.step)⟩
    ·rw [if_neg c3] at H
     exact absurd H (by simp)
   ·rw [if_neg c2] at H
    have c2b0 : decide (x3_1 < (a0.size : Int)) = false := decide_eq_false c2
    clear c2
    by_cases c16 : (a0.size : Int) ≥ 1
    ·rw [if_pos c16] at H
     have c16b0 : decide (1 ≤ (a0.size : Int)) = true := decide_eq_true c16
     have c16b1 : decide (1 ≤ a0.size) = true := decide_eq_true (by omega)
     clear c16
     obtain rfl := Option.some.inj H
     go_wp2
     go_ret
     exact ⟨by first | rfl | (simp;done) | (simp [*];done),by repeat (first | exact Drawn0.refl _ | apply Drawn0.step)⟩
    ·rw [if_neg c16] at H
     have c16b0 : decide (1 ≤ (a0.size : Int)) = false := decide_eq_false c16
     have c16b1 : decide (1 ≤ a0.size) = false := decide_eq_false (by omega)
     clear c16
     obtain rfl := Option.some.inj H
     go_wp2
     go_ret
     exact ⟨by first | rfl | (simp;done) | (simp [*];done),by repeat (first | exact Drawn0.refl _ | apply Drawn0.step)⟩
end Go.Proofs.YtnbbbjfjkhglhaaGreatDoor.Pr
namespace Go.Proofs.YtnbbbjfjkhglhaaGreatDoor.Pr
open Go.RowKit Go.Proofs.YtnbbbjfjkhglhaaGreatDoorW.PrintWords Go.Proofs.YtnbbbjfjkhglhaaGreatDoorW.PrintLast Go.Proofs.YtnbbbjfjkhglhaaGreatDoorW.PrintMore
attribute [local go_sem] max2_int min2_int max_two min_two max_three min_three max_four min_four
set_option linter.unusedVariables false
set_option linter.unusedSimpArgs false
def qjx.l0 : Nat → List (S30) → Int → Int → ByteArray → List (S30) → List Int → Option (Bool)
 | 0,_,_,_,_,_,_ => none
 | k + 1,x6,x7,x8,x102000,x102001,x102002 => if x8 < x7 then (if 0 ≤ x8 then (if x8 < (x6.length : Int) then ((qkq.f k ((vz x6 x8).f0) ((vz x6 x8).f1) ((vz x6 x8).f2) ((vz x6 x8).f3.f0) ((vz x6 x8).f3.f1) ((vz x6 x8).f3.f2) ((vz x6 x8).f3.f3)).bind fun t104 => (if t104 = true then (qjx.l0 k x6 x7 (wrap64 (x8 + 1)) x102000 x102001 x102002) else (some false))) else (none)) else (none)) else ((qvx.f k x102000).bind fun t105 => (if t105 = true then (if (x102001.length : Int) ≤ 20 then (some ((x102002.length : Int) == 16)) else (some false)) else (some false)))
def qjx.f (k : Nat) (a0_0 : ByteArray) (l0_1 : List (S30)) (l0_2 : List Int) : Option (Bool) := qjx.l0 k l0_1 (l0_1.length : Int) 0 a0_0 l0_1 l0_2
set_option maxHeartbeats 8000000 in
set_option maxRecDepth 100000 in
theorem qjx.calls (k : Nat) (a0_0 : ByteArray) (A0_1 : Option Addr) (c0_1 : Nat) (l0_1 : List (S30)) (A0_2 : Option Addr) (c0_2 : Nat) (l0_2 : List Int) (r : Bool) (w : World) (hr0_1 : Kd.C k30 w A0_1 l0_1.length l0_1) (hc0_1 : l0_1.length ≤ c0_1) (hr0_2 : Kd.C (Kd.int .u8) w A0_2 l0_2.length l0_2) (hc0_2 : l0_2.length ≤ c0_2) (h : qjx.f k a0_0 l0_1 l0_2 = some r) :
  Calls Tryz.prog 28 #[.agg #[.string a0_0,.slice A0_1 l0_1.length c0_1,.slice A0_2 l0_2.length c0_2]] w fun e w' => e = .returned (.bool r) ∧ Below w.heap.size w w' := by
 have hu41 := Tryz.underlying41
 have hu30 := Tryz.underlying30
 have HR0_1 := qq.mk hr0_1
 have HC0_1 := qq.mk hc0_1
 clear hr0_1 hc0_1
 have HR0_2 := qq.mk hr0_2
 have HC0_2 := qq.mk hc0_2
 clear hr0_2 hc0_2
 have HB := qq.mk (Below.refl w.heap.size w)
 have H : (qjx.l0 k l0_1 (l0_1.length : Int) 0 a0_0 l0_1 l0_2) = some r := h
 clear h
 have H' := qq.mk H
 clear H
 go_enter Tryz.func28,Tryz.ntmps28
 go_wp2_with (first | ((with_reducible refine gate_dst (N := 1) rfl ?_);(try (refine gate_guard (by rfl) ?_;dsimp only));refine box_event ?hg (N := 1) ?hd (cs := #[.string a0_0,.slice A0_1 l0_1.length c0_1,.slice A0_2 l0_2.length c0_2]) (t := 41) ?hr ?_;(case hd => rfl);(case hg => rfl);(case hr => first | (go_simp;done) | (go_simp;rfl));intro gb101 hg w2 hbox hb;have n0_ := qq.mk (zv (by repeat (first | (with_reducible first | exact HB.out | apply qj | apply qz | apply qk) | exact HB.out)) hb);have n1_ := qq.mk (hbox);have n2_ := qq.mk ((by rw [hg];exact (zw (by repeat (first | (with_reducible first | exact HB.out | apply qj | apply qz | apply qk) | exact HB.out))) : w.heap.size ≤ gb101));have n3_ := qq.mk ((by rw [hg];exact (zw (by repeat (first | (with_reducible first | exact HB.out | apply qj | apply qz | apply qk) | exact HB.out))) : w.heap.size ≤ gb101));clear HB;have HB := n0_;have BK101 := n1_;have GW101 := n2_;have GE101 := n3_;clear n0_ n1_ n2_ n3_;clear hb hbox hg;have hcz3_0 : w2.cell? ⟨gb101,0,none⟩ = some (.string a0_0) := (qw BK101.out 0).trans rfl;have hcz3_1 : w2.cell? ⟨gb101,1,none⟩ = some (.slice A0_1 l0_1.length c0_1) := (qw BK101.out 1).trans rfl;have hcz3_2 : w2.cell? ⟨gb101,2,none⟩ = some (.slice A0_2 l0_2.length c0_2) := (qw BK101.out 2).trans rfl;have hfz3_0 := qv BK101.out 0;have hfz3_1 := qv BK101.out 1;have hfz3_2 := qv BK101.out 2))
 go_loopg [8] k (fun kq v8 w' => ∃ (x8_1 : Int),v8 = .int .i64 x8_1 ∧ qq (qjx.l0 kq l0_1 (l0_1.length : Int) x8_1 a0_0 l0_1 l0_2 = some r) ∧ qq (kq ≤ k) ∧ qq (w'.heap[gb101]? = some (.cells #[.string a0_0,(.slice A0_1 l0_1.length c0_1),(.slice A0_2 l0_2.length c0_2)] 41 (0,0))) ∧ qq (Below w.heap.size w w'))
 case atStart => exact ⟨(0),(by first | rfl | (simp;done) | (simp [*];done)),H',⟨Nat.le_refl _⟩,⟨by (with_reducible repeat (first | refine zz ?_ _ | refine zj ?_ | refine zq ?_ _));exact BK101.out⟩,⟨by repeat (first | (with_reducible first | exact HB.out | apply qj | apply qz | apply qk | refine qx ?_ GE101.out) | exact HB.out)⟩⟩
 case round =>
  clear H'
  try clear c2
  try clear p2
  try clear hcz3_0
  try clear hcz3_1
  try clear hcz3_2
  try clear hfz3_0
  try clear hfz3_1
  try clear hfz3_2
  obtain ⟨x8_1,rfl,HA,HK1,BK101,HB⟩ := hrel
  cases gk with
  | zero => exact absurd HA.out (by simp [qjx.l0])
  | succ k1 =>
   have H := HA.out
   clear HA
   simp only [qjx.l0] at H
   by_cases c4 : x8_1 < (l0_1.length : Int)
   ·rw [if_pos c4] at H
    have c4b0 : decide (x8_1 < (l0_1.length : Int)) = true := decide_eq_true c4
    clear c4
    by_cases c5 : 0 ≤ x8_1
    ·rw [if_pos c5] at H
     have c5b0 : decide (0 ≤ x8_1) = true := decide_eq_true c5
     clear c5
     by_cases c6 : x8_1 < (l0_1.length : Int)
     ·rw [if_pos c6] at H
      have c6b0 : decide (x8_1 < (l0_1.length : Int)) = true := decide_eq_true c6
      clear c6
      replace H := Option.bind_eq_some_iff.mp H
      obtain ⟨t104,A70,H⟩ := H
      replace H : (if t104 = true then (qjx.l0 k1 l0_1 (l0_1.length : Int) (wrap64 (x8_1 + 1)) a0_0 l0_1 l0_2) else (some false)) = some r := H
      have A7 := qq.mk A70
      clear A70
      by_cases c8 : t104 = true
      ·subst c8
       have H1 : (qjx.l0 k1 l0_1 (l0_1.length : Int) (wrap64 (x8_1 + 1)) a0_0 l0_1 l0_2) = some r := by rw [if_pos rfl] at H;exact H
       clear H
       have H := H1
       clear H1
       have H' := qq.mk H
       clear H
       have p102 : 0 ≤ (x8_1 : Int) := of_decide_eq_true (by assumption)
       have q102 : x8_1 < (l0_1.length : Int) := of_decide_eq_true (by assumption)
       obtain ⟨ad102,e102,hx102_0,hx102_1,hx102_2,hx102_3,hx102_4,hx102_5,hx102_6⟩ := at_T30 HR0_1.out x8_1 p102 q102
       cases e102
       replace hx102_0 := (HB.out.cell (World.block_lt_of_cell? w _ hx102_0)).trans hx102_0
       replace hx102_1 := (HB.out.cell (World.block_lt_of_cell? w _ hx102_1)).trans hx102_1
       replace hx102_2 := (HB.out.cell (World.block_lt_of_cell? w _ hx102_2)).trans hx102_2
       replace hx102_3 := (HB.out.cell (World.block_lt_of_cell? w _ hx102_3)).trans hx102_3
       replace hx102_4 := (HB.out.cell (World.block_lt_of_cell? w _ hx102_4)).trans hx102_4
       replace hx102_5 := (HB.out.cell (World.block_lt_of_cell? w _ hx102_5)).trans hx102_5
       replace hx102_6 := (HB.out.cell (World.block_lt_of_cell? w _ hx102_6)).trans hx102_6
       replace p102 := eq_true p102
       replace q102 := eq_true q102
       go_wp2_with (first | ((with_reducible refine gate_dst (N := 4) rfl ?_);(try (refine gate_guard (by rfl) ?_;dsimp only));refine box_event ?hg (N := 4) ?hd (cs := #[.string (⟨#[]⟩ : ByteArray),.int .i64 0,.string (⟨#[]⟩ : ByteArray),.int .i64 0,.int .i64 0,.string (⟨#[]⟩ : ByteArray),.string (⟨#[]⟩ : ByteArray)]) (t := 30) ?hr ?_;(case hd => rfl);(case hg => rfl);(case hr => first | (go_simp;done) | (go_simp;rfl));intro gb103 hg w9 hbox hb;have n0_ := qq.mk (kw (g := gb101) (o := .cells #[.string a0_0,.slice (some ad102) l0_1.length c0_1,.slice A0_2 l0_2.length c0_2] 41 (0,0)) (by (with_reducible repeat (first | refine zz ?_ _ | refine zj ?_ | refine zq ?_ _));exact BK101.out) hb);have n1_ := qq.mk (zv (by repeat (first | (with_reducible first | exact HB.out | apply qj | apply qz | apply qk | refine qx ?_ GE101.out) | exact HB.out)) hb);have n2_ := qq.mk (hbox);have n3_ := qq.mk ((by rw [hg];exact (zw (by repeat (first | (with_reducible first | exact HB.out | apply qj | apply qz | apply qk | refine qx ?_ GE101.out) | exact HB.out))) : w.heap.size ≤ gb103));have n4_ := qq.mk ((by rw [hg];exact (zw (by repeat (first | (with_reducible first | exact HB.out | apply qj | apply qz | apply qk | refine qx ?_ GE101.out) | exact HB.out))) : w.heap.size ≤ gb103));have n5_ := qq.mk ((by rw [hg];exact Nat.ne_of_lt (blk_lt (g := gb101) (o := .cells #[.string a0_0,.slice (some ad102) l0_1.length c0_1,.slice A0_2 l0_2.length c0_2] 41 (0,0)) (by (with_reducible repeat (first | refine zz ?_ _ | refine zj ?_ | refine zq ?_ _));exact BK101.out)) : gb101 ≠ gb103));have n6_ := qq.mk ((by rw [hg];exact Nat.ne_of_gt (blk_lt (g := gb101) (o := .cells #[.string a0_0,.slice (some ad102) l0_1.length c0_1,.slice A0_2 l0_2.length c0_2] 41 (0,0)) (by (with_reducible repeat (first | refine zz ?_ _ | refine zj ?_ | refine zq ?_ _));exact BK101.out)) : gb103 ≠ gb101));clear BK101;clear HB;have BK101 := n0_;have HB := n1_;have BK103 := n2_;have GW103 := n3_;have GE103 := n4_;have NB101_103 := n5_;have NB103_101 := n6_;clear n0_ n1_ n2_ n3_ n4_ n5_ n6_;clear hb hbox hg;have hnb10 := NB103_101.out;have hnc10 := NB101_103.out;have hcz11_0 : w9.cell? ⟨gb103,0,none⟩ = some (.string (⟨#[]⟩ : ByteArray)) := (qw BK103.out 0).trans rfl;have hcz11_1 : w9.cell? ⟨gb103,1,none⟩ = some (.int .i64 0) := (qw BK103.out 1).trans rfl;have hcz11_2 : w9.cell? ⟨gb103,2,none⟩ = some (.string (⟨#[]⟩ : ByteArray)) := (qw BK103.out 2).trans rfl;have hcz11_3 : w9.cell? ⟨gb103,3,none⟩ = some (.int .i64 0) := (qw BK103.out 3).trans rfl;have hcz11_4 : w9.cell? ⟨gb103,4,none⟩ = some (.int .i64 0) := (qw BK103.out 4).trans rfl;have hcz11_5 : w9.cell? ⟨gb103,5,none⟩ = some (.string (⟨#[]⟩ : ByteArray)) := (qw BK103.out 5).trans rfl;have hcz11_6 : w9.cell? ⟨gb103,6,none⟩ = some (.string (⟨#[]⟩ : ByteArray)) := (qw BK103.out 6).trans rfl;have hfz11_0 := qv BK103.out 0;have hfz11_1 := qv BK103.out 1;have hfz11_2 := qv BK103.out 2;have hfz11_3 := qv BK103.out 3;have hfz11_4 := qv BK103.out 4;have hfz11_5 := qv BK103.out 5;have hfz11_6 := qv BK103.out 6) | ((with_reducible refine jv (f := 20) rfl ?_);refine goesL_ (some 13) rfl rfl Tryz.func20 (by kernel_rfl) rfl #[.agg #[.string ((vz l0_1 x8_1).f0),.int .i64 ((vz l0_1 x8_1).f1),.string ((vz l0_1 x8_1).f2),.int .i64 ((vz l0_1 x8_1).f3.f0),.int .i64 ((vz l0_1 x8_1).f3.f1),.string ((vz l0_1 x8_1).f3.f2),.string ((vz l0_1 x8_1).f3.f3)]] rfl (by (try simp only [List.map_toArray,List.map_cons,List.map_nil]);first | done | rfl | (simp only [List.length_drop,List.length_take];rfl)) ?_;(with_reducible refine (qkq.calls k1 ((vz l0_1 x8_1).f0) ((vz l0_1 x8_1).f1) ((vz l0_1 x8_1).f2) ((vz l0_1 x8_1).f3.f0) ((vz l0_1 x8_1).f3.f1) ((vz l0_1 x8_1).f3.f2) ((vz l0_1 x8_1).f3.f3) true _ A7.out).mono ?_);rintro e w12 ⟨rfl,hb⟩;refine ⟨_,rfl,?_⟩;have n0_ := qq.mk (kw (g := gb101) (o := .cells #[.string a0_0,.slice (some ad102) l0_1.length c0_1,.slice A0_2 l0_2.length c0_2] 41 (0,0)) (by (with_reducible repeat (first | refine zz ?_ _ | refine zj ?_ | refine zq ?_ _));refine blk_far ?_ NB101_103.out _;(with_reducible repeat (first | refine zz ?_ _ | refine zj ?_ | refine zq ?_ _));refine blk_far ?_ NB101_103.out _;(with_reducible repeat (first | refine zz ?_ _ | refine zj ?_ | refine zq ?_ _));refine blk_far ?_ NB101_103.out _;(with_reducible repeat (first | refine zz ?_ _ | refine zj ?_ | refine zq ?_ _));refine blk_far ?_ NB101_103.out _;(with_reducible repeat (first | refine zz ?_ _ | refine zj ?_ | refine zq ?_ _));refine blk_far ?_ NB101_103.out _;(with_reducible repeat (first | refine zz ?_ _ | refine zj ?_ | refine zq ?_ _));refine blk_far ?_ NB101_103.out _;(with_reducible repeat (first | refine zz ?_ _ | refine zj ?_ | refine zq ?_ _));refine blk_far ?_ NB101_103.out _;(with_reducible repeat (first | refine zz ?_ _ | refine zj ?_ | refine zq ?_ _));exact BK101.out) hb);have n1_ := qq.mk (kw (g := gb103) (o := .cells #[.string ((vz l0_1 x8_1).f0),.int .i64 ((vz l0_1 x8_1).f1),.string ((vz l0_1 x8_1).f2),.int .i64 ((vz l0_1 x8_1).f3.f0),.int .i64 ((vz l0_1 x8_1).f3.f1),.string ((vz l0_1 x8_1).f3.f2),.string ((vz l0_1 x8_1).f3.f3)] 30 (0,0)) (by (with_reducible repeat (first | refine zz ?_ _ | refine zj ?_ | refine zq ?_ _));refine blk_put (cs := #[.string ((vz l0_1 x8_1).f0),.int .i64 ((vz l0_1 x8_1).f1),.string ((vz l0_1 x8_1).f2),.int .i64 ((vz l0_1 x8_1).f3.f0),.int .i64 ((vz l0_1 x8_1).f3.f1),.string ((vz l0_1 x8_1).f3.f2),.string (⟨#[]⟩ : ByteArray)]) ?_ 6 _ rfl;(with_reducible repeat (first | refine zz ?_ _ | refine zj ?_ | refine zq ?_ _));refine blk_put (cs := #[.string ((vz l0_1 x8_1).f0),.int .i64 ((vz l0_1 x8_1).f1),.string ((vz l0_1 x8_1).f2),.int .i64 ((vz l0_1 x8_1).f3.f0),.int .i64 ((vz l0_1 x8_1).f3.f1),.string (⟨#[]⟩ : ByteArray),.string (⟨#[]⟩ : ByteArray)]) ?_ 5 _ rfl;(with_reducible repeat (first | refine zz ?_ _ | refine zj ?_ | refine zq ?_ _));refine blk_put (cs := #[.string ((vz l0_1 x8_1).f0),.int .i64 ((vz l0_1 x8_1).f1),.string ((vz l0_1 x8_1).f2),.int .i64 ((vz l0_1 x8_1).f3.f0),.int .i64 0,.string (⟨#[]⟩ : ByteArray),.string (⟨#[]⟩ : ByteArray)]) ?_ 4 _ rfl;(with_reducible repeat (first | refine zz ?_ _ | refine zj ?_ | refine zq ?_ _));refine blk_put (cs := #[.string ((vz l0_1 x8_1).f0),.int .i64 ((vz l0_1 x8_1).f1),.string ((vz l0_1 x8_1).f2),.int .i64 0,.int .i64 0,.string (⟨#[]⟩ : ByteArray),.string (⟨#[]⟩ : ByteArray)]) ?_ 3 _ rfl;(with_reducible repeat (first | refine zz ?_ _ | refine zj ?_ | refine zq ?_ _));refine blk_put (cs := #[.string ((vz l0_1 x8_1).f0),.int .i64 ((vz l0_1 x8_1).f1),.string (⟨#[]⟩ : ByteArray),.int .i64 0,.int .i64 0,.string (⟨#[]⟩ : ByteArray),.string (⟨#[]⟩ : ByteArray)]) ?_ 2 _ rfl;(with_reducible repeat (first | refine zz ?_ _ | refine zj ?_ | refine zq ?_ _));refine blk_put (cs := #[.string ((vz l0_1 x8_1).f0),.int .i64 0,.string (⟨#[]⟩ : ByteArray),.int .i64 0,.int .i64 0,.string (⟨#[]⟩ : ByteArray),.string (⟨#[]⟩ : ByteArray)]) ?_ 1 _ rfl;(with_reducible repeat (first | refine zz ?_ _ | refine zj ?_ | refine zq ?_ _));refine blk_put (cs := #[.string (⟨#[]⟩ : ByteArray),.int .i64 0,.string (⟨#[]⟩ : ByteArray),.int .i64 0,.int .i64 0,.string (⟨#[]⟩ : ByteArray),.string (⟨#[]⟩ : ByteArray)]) ?_ 0 _ rfl;(with_reducible repeat (first | refine zz ?_ _ | refine zj ?_ | refine zq ?_ _));exact BK103.out) hb);have n2_ := qq.mk (zv (by repeat (first | (with_reducible first | exact HB.out | apply qj | apply qz | apply qk | refine qx ?_ GE101.out | refine qx ?_ GE103.out) | exact HB.out)) hb);clear BK101;clear BK103;clear HB;have BK101 := n0_;have BK103 := n1_;have HB := n2_;clear n0_ n1_ n2_;(try clear hb);(try clear hb2);(try clear hk);(try clear hi)))
       go_roundg k1
       case measure => have := HK1.out;omega
       case rel => exact ⟨(wrap64 (x8_1 + 1)),(by first | rfl | (simp;done) | (simp [*];done)),H',⟨by have := HK1.out;omega⟩,⟨by (with_reducible repeat (first | refine zz ?_ _ | refine zj ?_ | refine zq ?_ _));exact BK101.out⟩,⟨by repeat (first | (with_reducible first | exact HB.out | apply qj | apply qz | apply qk | refine qx ?_ GE101.out | refine qx ?_ GE103.out) | exact HB.out)⟩⟩
      ·replace c8 := Bool.eq_false_iff.mpr c8
       subst c8
       have H1 : (some false) = some r := by rw [if_neg (show ¬ (false = true) by decide)] at H;exact H
       clear H
       have H := H1
       clear H1
       obtain rfl := Option.some.inj H
       have p102 : 0 ≤ (x8_1 : Int) := of_decide_eq_true (by assumption)
       have q102 : x8_1 < (l0_1.length : Int) := of_decide_eq_true (by assumption)
       obtain ⟨ad102,e102,hx102_0,hx102_1,hx102_2,hx102_3,hx102_4,hx102_5,hx102_6⟩ := at_T30 HR0_1.out x8_1 p102 q102
       cases e102
       replace hx102_0 := (HB.out.cell (World.block_lt_of_cell? w _ hx102_0)).trans hx102_0
       replace hx102_1 := (HB.out.cell (World.block_lt_of_cell? w _ hx102_1)).trans hx102_1
       replace hx102_2 := (HB.out.cell (World.block_lt_of_cell? w _ hx102_2)).trans hx102_2
       replace hx102_3 := (HB.out.cell (World.block_lt_of_cell? w _ hx102_3)).trans hx102_3
       replace hx102_4 := (HB.out.cell (World.block_lt_of_cell? w _ hx102_4)).trans hx102_4
       replace hx102_5 := (HB.out.cell (World.block_lt_of_cell? w _ hx102_5)).trans hx102_5
       replace hx102_6 := (HB.out.cell (World.block_lt_of_cell? w _ hx102_6)).trans hx102_6
       replace p102 := eq_true p102
       replace q102 := eq_true q102
       go_wp2_with (first | ((with_reducible refine gate_dst (N := 4) rfl ?_);(try (refine gate_guard (by rfl) ?_;dsimp only));refine box_event ?hg (N := 4) ?hd (cs := #[.string (⟨#[]⟩ : ByteArray),.int .i64 0,.string (⟨#[]⟩ : ByteArray),.int .i64 0,.int .i64 0,.string (⟨#[]⟩ : ByteArray),.string (⟨#[]⟩ : ByteArray)]) (t := 30) ?hr ?_;(case hd => rfl);(case hg => rfl);(case hr => first | (go_simp;done) | (go_simp;rfl));intro gb103 hg w13 hbox hb;have n0_ := qq.mk (kw (g := gb101) (o := .cells #[.string a0_0,.slice (some ad102) l0_1.length c0_1,.slice A0_2 l0_2.length c0_2] 41 (0,0)) (by (with_reducible repeat (first | refine zz ?_ _ | refine zj ?_ | refine zq ?_ _));exact BK101.out) hb);have n1_ := qq.mk (zv (by repeat (first | (with_reducible first | exact HB.out | apply qj | apply qz | apply qk | refine qx ?_ GE101.out) | exact HB.out)) hb);have n2_ := qq.mk (hbox);have n3_ := qq.mk ((by rw [hg];exact (zw (by repeat (first | (with_reducible first | exact HB.out | apply qj | apply qz | apply qk | refine qx ?_ GE101.out) | exact HB.out))) : w.heap.size ≤ gb103));have n4_ := qq.mk ((by rw [hg];exact (zw (by repeat (first | (with_reducible first | exact HB.out | apply qj | apply qz | apply qk | refine qx ?_ GE101.out) | exact HB.out))) : w.heap.size ≤ gb103));have n5_ := qq.mk ((by rw [hg];exact Nat.ne_of_lt (blk_lt (g := gb101) (o := .cells #[.string a0_0,.slice (some ad102) l0_1.length c0_1,.slice A0_2 l0_2.length c0_2] 41 (0,0)) (by (with_reducible repeat (first | refine zz ?_ _ | refine zj ?_ | refine zq ?_ _));exact BK101.out)) : gb101 ≠ gb103));have n6_ := qq.mk ((by rw [hg];exact Nat.ne_of_gt (blk_lt (g := gb101) (o := .cells #[.string a0_0,.slice (some ad102) l0_1.length c0_1,.slice A0_2 l0_2.length c0_2] 41 (0,0)) (by (with_reducible repeat (first | refine zz ?_ _ | refine zj ?_ | refine zq ?_ _));exact BK101.out)) : gb103 ≠ gb101));clear BK101;clear HB;have BK101 := n0_;have HB := n1_;have BK103 := n2_;have GW103 := n3_;have GE103 := n4_;have NB101_103 := n5_;have NB103_101 := n6_;clear n0_ n1_ n2_ n3_ n4_ n5_ n6_;clear hb hbox hg;have hnb14 := NB103_101.out;have hnc14 := NB101_103.out;have hcz15_0 : w13.cell? ⟨gb103,0,none⟩ = some (.string (⟨#[]⟩ : ByteArray)) := (qw BK103.out 0).trans rfl;have hcz15_1 : w13.cell? ⟨gb103,1,none⟩ = some (.int .i64 0) := (qw BK103.out 1).trans rfl;have hcz15_2 : w13.cell? ⟨gb103,2,none⟩ = some (.string (⟨#[]⟩ : ByteArray)) := (qw BK103.out 2).trans rfl;have hcz15_3 : w13.cell? ⟨gb103,3,none⟩ = some (.int .i64 0) := (qw BK103.out 3).trans rfl;have hcz15_4 : w13.cell? ⟨gb103,4,none⟩ = some (.int .i64 0) := (qw BK103.out 4).trans rfl;have hcz15_5 : w13.cell? ⟨gb103,5,none⟩ = some (.string (⟨#[]⟩ : ByteArray)) := (qw BK103.out 5).trans rfl;have hcz15_6 : w13.cell? ⟨gb103,6,none⟩ = some (.string (⟨#[]⟩ : ByteArray)) := (qw BK103.out 6).trans rfl;have hfz15_0 := qv BK103.out 0;have hfz15_1 := qv BK103.out 1;have hfz15_2 := qv BK103.out 2;have hfz15_3 := qv BK103.out 3;have hfz15_4 := qv BK103.out 4;have hfz15_5 := qv BK103.out 5;have hfz15_6 := qv BK103.out 6) | ((with_reducible refine jv (f := 20) rfl ?_);refine goesL_ (some 13) rfl rfl Tryz.func20 (by kernel_rfl) rfl #[.agg #[.string ((vz l0_1 x8_1).f0),.int .i64 ((vz l0_1 x8_1).f1),.string ((vz l0_1 x8_1).f2),.int .i64 ((vz l0_1 x8_1).f3.f0),.int .i64 ((vz l0_1 x8_1).f3.f1),.string ((vz l0_1 x8_1).f3.f2),.string ((vz l0_1 x8_1).f3.f3)]] rfl (by (try simp only [List.map_toArray,List.map_cons,List.map_nil]);first | done | rfl | (simp only [List.length_drop,List.length_take];rfl)) ?_;(with_reducible refine (qkq.calls k1 ((vz l0_1 x8_1).f0) ((vz l0_1 x8_1).f1) ((vz l0_1 x8_1).f2) ((vz l0_1 x8_1).f3.f0) ((vz l0_1 x8_1).f3.f1) ((vz l0_1 x8_1).f3.f2) ((vz l0_1 x8_1).f3.f3) false _ A7.out).mono ?_);rintro e w16 ⟨rfl,hb⟩;refine ⟨_,rfl,?_⟩;have n0_ := qq.mk (kw (g := gb101) (o := .cells #[.string a0_0,.slice (some ad102) l0_1.length c0_1,.slice A0_2 l0_2.length c0_2] 41 (0,0)) (by (with_reducible repeat (first | refine zz ?_ _ | refine zj ?_ | refine zq ?_ _));refine blk_far ?_ NB101_103.out _;(with_reducible repeat (first | refine zz ?_ _ | refine zj ?_ | refine zq ?_ _));refine blk_far ?_ NB101_103.out _;(with_reducible repeat (first | refine zz ?_ _ | refine zj ?_ | refine zq ?_ _));refine blk_far ?_ NB101_103.out _;(with_reducible repeat (first | refine zz ?_ _ | refine zj ?_ | refine zq ?_ _));refine blk_far ?_ NB101_103.out _;(with_reducible repeat (first | refine zz ?_ _ | refine zj ?_ | refine zq ?_ _));refine blk_far ?_ NB101_103.out _;(with_reducible repeat (first | refine zz ?_ _ | refine zj ?_ | refine zq ?_ _));refine blk_far ?_ NB101_103.out _;(with_reducible repeat (first | refine zz ?_ _ | refine zj ?_ | refine zq ?_ _));refine blk_far ?_ NB101_103.out _;(with_reducible repeat (first | refine zz ?_ _ | refine zj ?_ | refine zq ?_ _));exact BK101.out) hb);have n1_ := qq.mk (kw (g := gb103) (o := .cells #[.string ((vz l0_1 x8_1).f0),.int .i64 ((vz l0_1 x8_1).f1),.string ((vz l0_1 x8_1).f2),.int .i64 ((vz l0_1 x8_1).f3.f0),.int .i64 ((vz l0_1 x8_1).f3.f1),.string ((vz l0_1 x8_1).f3.f2),.string ((vz l0_1 x8_1).f3.f3)] 30 (0,0)) (by (with_reducible repeat (first | refine zz ?_ _ | refine zj ?_ | refine zq ?_ _));refine blk_put (cs := #[.string ((vz l0_1 x8_1).f0),.int .i64 ((vz l0_1 x8_1).f1),.string ((vz l0_1 x8_1).f2),.int .i64 ((vz l0_1 x8_1).f3.f0),.int .i64 ((vz l0_1 x8_1).f3.f1),.string ((vz l0_1 x8_1).f3.f2),.string (⟨#[]⟩ : ByteArray)]) ?_ 6 _ rfl;(with_reducible repeat (first | refine zz ?_ _ | refine zj ?_ | refine zq ?_ _));refine blk_put (cs := #[.string ((vz l0_1 x8_1).f0),.int .i64 ((vz l0_1 x8_1).f1),.string ((vz l0_1 x8_1).f2),.int .i64 ((vz l0_1 x8_1).f3.f0),.int .i64 ((vz l0_1 x8_1).f3.f1),.string (⟨#[]⟩ : ByteArray),.string (⟨#[]⟩ : ByteArray)]) ?_ 5 _ rfl;(with_reducible repeat (first | refine zz ?_ _ | refine zj ?_ | refine zq ?_ _));refine blk_put (cs := #[.string ((vz l0_1 x8_1).f0),.int .i64 ((vz l0_1 x8_1).f1),.string ((vz l0_1 x8_1).f2),.int .i64 ((vz l0_1 x8_1).f3.f0),.int .i64 0,.string (⟨#[]⟩ : ByteArray),.string (⟨#[]⟩ : ByteArray)]) ?_ 4 _ rfl;(with_reducible repeat (first | refine zz ?_ _ | refine zj ?_ | refine zq ?_ _));refine blk_put (cs := #[.string ((vz l0_1 x8_1).f0),.int .i64 ((vz l0_1 x8_1).f1),.string ((vz l0_1 x8_1).f2),.int .i64 0,.int .i64 0,.string (⟨#[]⟩ : ByteArray),.string (⟨#[]⟩ : ByteArray)]) ?_ 3 _ rfl;(with_reducible repeat (first | refine zz ?_ _ | refine zj ?_ | refine zq ?_ _));refine blk_put (cs := #[.string ((vz l0_1 x8_1).f0),.int .i64 ((vz l0_1 x8_1).f1),.string (⟨#[]⟩ : ByteArray),.int .i64 0,.int .i64 0,.string (⟨#[]⟩ : ByteArray),.string (⟨#[]⟩ : ByteArray)]) ?_ 2 _ rfl;(with_reducible repeat (first | refine zz ?_ _ | refine zj ?_ | refine zq ?_ _));refine blk_put (cs := #[.string ((vz l0_1 x8_1).f0),.int .i64 0,.string (⟨#[]⟩ : ByteArray),.int .i64 0,.int .i64 0,.string (⟨#[]⟩ : ByteArray),.string (⟨#[]⟩ : ByteArray)]) ?_ 1 _ rfl;(with_reducible repeat (first | refine zz ?_ _ | refine zj ?_ | refine zq ?_ _));refine blk_put (cs := #[.string (⟨#[]⟩ : ByteArray),.int .i64 0,.string (⟨#[]⟩ : ByteArray),.int .i64 0,.int .i64 0,.string (⟨#[]⟩ : ByteArray),.string (⟨#[]⟩ : ByteArray)]) ?_ 0 _ rfl;(with_reducible repeat (first | refine zz ?_ _ | refine zj ?_ | refine zq ?_ _));exact BK103.out) hb);have n2_ := qq.mk (zv (by repeat (first | (with_reducible first | exact HB.out | apply qj | apply qz | apply qk | refine qx ?_ GE101.out | refine qx ?_ GE103.out) | exact HB.out)) hb);clear BK101;clear BK103;clear HB;have BK101 := n0_;have BK103 := n1_;have HB := n2_;clear n0_ n1_ n2_;(try clear hb);(try clear hb2);(try clear hk);(try clear hi)))
       go_ret
       exact ⟨by first | rfl | (simp [*,jk,jj] <;> rfl),by repeat (first | (with_reducible first | exact HB.out | apply qj | apply qz | apply qk | refine qx ?_ GE101.out | refine qx ?_ GE103.out) | exact HB.out)⟩
     ·rw [if_neg c6] at H
      exact absurd H (by simp)
    ·rw [if_neg c5] at H
     exact absurd H (by simp)
   ·rw [if_neg c4] at H
    have c4b0 : decide (x8_1 < (l0_1.length : Int)) = false := decide_eq_false c4
    clear c4
    replace H := Option.bind_eq_some_iff.mp H
    obtain ⟨t105,A170,H⟩ := H
    replace H : (if t105 = true then (if (l0_1.length : Int) ≤ 20 then (some ((l0_2.length : Int) == 16)) else (some false)) else (some false)) = some r := H
    have A17 := qq.mk A170
    clear A170
    by_cases c18 : t105 = true
    ·subst c18
     have H1 : (if (l0_1.length : Int) ≤ 20 then (some ((l0_2.length : Int) == 16)) else (some false)) = some r := by rw [if_pos rfl] at H;exact H
     clear H
     have H := H1
     clear H1
     by_cases c19 : (l0_1.length : Int) ≤ 20
     ·rw [if_pos c19] at H
      have c19b0 : decide ((l0_1.length : Int) ≤ 20) = true := decide_eq_true c19
      have c19b1 : decide (l0_1.length ≤ 20) = true := decide_eq_true (by omega)
      clear c19
      obtain rfl := Option.some.inj H
      have hcz20_0 : wr.cell? ⟨gb101,0,none⟩ = some (.string a0_0) := (qw BK101.out 0).trans rfl
      have hcz20_1 : wr.cell? ⟨gb101,1,none⟩ = some (.slice A0_1 l0_1.length c0_1) := (qw BK101.out 1).trans rfl
      have hcz20_2 : wr.cell? ⟨gb101,2,none⟩ = some (.slice A0_2 l0_2.length c0_2) := (qw BK101.out 2).trans rfl
      have hfz20_0 := qv BK101.out 0
      have hfz20_1 := qv BK101.out 1
      have hfz20_2 := qv BK101.out 2
      go_wp2_with (first | ((with_reducible refine jv (f := 58) rfl ?_);refine goesL_ (some 18) rfl rfl Tryz.func58 (by kernel_rfl) rfl #[.string a0_0] rfl (by (try simp only [List.map_toArray,List.map_cons,List.map_nil]);first | done | rfl | (simp only [List.length_drop,List.length_take];rfl)) ?_;(with_reducible refine (qvx.calls k1 a0_0 true _ A17.out).mono ?_);rintro e w' ⟨rfl,⟨nd,rfl⟩⟩;refine ⟨_,rfl,?_⟩))
      go_ret
      exact ⟨by first | rfl | (simp [*,jk,jj] <;> rfl),by repeat (first | (with_reducible first | exact HB.out | apply qj | apply qz | apply qk | refine qx ?_ GE101.out) | exact HB.out)⟩
     ·rw [if_neg c19] at H
      have c19b0 : decide ((l0_1.length : Int) ≤ 20) = false := decide_eq_false c19
      have c19b1 : decide (l0_1.length ≤ 20) = false := decide_eq_false (by omega)
      clear c19
      obtain rfl := Option.some.inj H
      have hcz21_0 : wr.cell? ⟨gb101,0,none⟩ = some (.string a0_0) := (qw BK101.out 0).trans rfl
      have hcz21_1 : wr.cell? ⟨gb101,1,none⟩ = some (.slice A0_1 l0_1.length c0_1) := (qw BK101.out 1).trans rfl
      have hcz21_2 : wr.cell? ⟨gb101,2,none⟩ = some (.slice A0_2 l0_2.length c0_2) := (qw BK101.out 2).trans rfl
      have hfz21_0 := qv BK101.out 0
      have hfz21_1 := qv BK101.out 1
      have hfz21_2 := qv BK101.out 2
      go_wp2_with (first | ((with_reducible refine jv (f := 58) rfl ?_);refine goesL_ (some 18) rfl rfl Tryz.func58 (by kernel_rfl) rfl #[.string a0_0] rfl (by (try simp only [List.map_toArray,List.map_cons,List.map_nil]);first | done | rfl | (simp only [List.length_drop,List.length_take];rfl)) ?_;(with_reducible refine (qvx.calls k1 a0_0 true _ A17.out).mono ?_);rintro e w' ⟨rfl,⟨nd,rfl⟩⟩;refine ⟨_,rfl,?_⟩))
      go_ret
      exact ⟨by first | rfl | (simp [*,jk,jj] <;> rfl),by repeat (first | (with_reducible first | exact HB.out | apply qj | apply qz | apply qk | refine qx ?_ GE101.out) | exact HB.out)⟩
    ·replace c18 := Bool.eq_false_iff.mpr c18
     subst c18
     have H1 : (some false) = some r := by rw [if_neg (show ¬ (false = true) by decide)] at H;exact H
     clear H
     have H := H1
     clear H1
     obtain rfl := Option.some.inj H
     have hcz22_0 : wr.cell? ⟨gb101,0,none⟩ = some (.string a0_0) := (qw BK101.out 0).trans rfl
     have hcz22_1 : wr.cell? ⟨gb101,1,none⟩ = some (.slice A0_1 l0_1.length c0_1) := (qw BK101.out 1).trans rfl
     have hcz22_2 : wr.cell? ⟨gb101,2,none⟩ = some (.slice A0_2 l0_2.length c0_2) := (qw BK101.out 2).trans rfl
     have hfz22_0 := qv BK101.out 0
     have hfz22_1 := qv BK101.out 1
     have hfz22_2 := qv BK101.out 2
     go_wp2_with (first | ((with_reducible refine jv (f := 58) rfl ?_);refine goesL_ (some 18) rfl rfl Tryz.func58 (by kernel_rfl) rfl #[.string a0_0] rfl (by (try simp only [List.map_toArray,List.map_cons,List.map_nil]);first | done | rfl | (simp only [List.length_drop,List.length_take];rfl)) ?_;(with_reducible refine (qvx.calls k1 a0_0 false _ A17.out).mono ?_);rintro e w' ⟨rfl,⟨nd,rfl⟩⟩;refine ⟨_,rfl,?_⟩))
     go_ret
     exact ⟨by first | rfl | (simp [*,jk,jj] <;> rfl),by repeat (first | (with_reducible first | exact HB.out | apply qj | apply qz | apply qk | refine qx ?_ GE101.out) | exact HB.out)⟩
end Go.Proofs.YtnbbbjfjkhglhaaGreatDoor.Pr
namespace Go.Proofs.YtnbbbjfjkhglhaaGreatDoor.Pr
open Go.RowKit Go.Proofs.YtnbbbjfjkhglhaaGreatDoorW.PrintWords Go.Proofs.YtnbbbjfjkhglhaaGreatDoorW.PrintLast Go.Proofs.YtnbbbjfjkhglhaaGreatDoorW.PrintMore
attribute [local go_sem] max2_int min2_int max_two min_two max_three min_three max_four min_four
set_option linter.unusedVariables false
set_option linter.unusedSimpArgs false
def qvw.f  : Option (List ByteArray) := some (([(⟨#[]⟩ : ByteArray),(⟨#[61,61]⟩ : ByteArray),(⟨#[60]⟩ : ByteArray),(⟨#[60,61]⟩ : ByteArray),(⟨#[105,110]⟩ : ByteArray)] : List ByteArray))
set_option maxHeartbeats 8000000 in
set_option maxRecDepth 100000 in
theorem qvw.calls  (r : List ByteArray) (w : World) (h : qvw.f  = some r) :
  Calls Tryz.prog 21 #[] w fun e w' => ∃ v0_ : Value,e = .returned (v0_) ∧ Kd.R Kd.string 9 w' w.heap.size (fun _ => True) v0_ r ∧ Below w.heap.size w w' := by
 have HB := qq.mk (Below.refl w.heap.size w)
 have H : (some (([(⟨#[]⟩ : ByteArray),(⟨#[61,61]⟩ : ByteArray),(⟨#[60]⟩ : ByteArray),(⟨#[60,61]⟩ : ByteArray),(⟨#[105,110]⟩ : ByteArray)] : List ByteArray))) = some r := h
 clear h
 obtain ⟨y101,hy101⟩ : ∃ y_ : List ByteArray,y_ = (([(⟨#[]⟩ : ByteArray),(⟨#[61,61]⟩ : ByteArray),(⟨#[60]⟩ : ByteArray),(⟨#[60,61]⟩ : ByteArray),(⟨#[105,110]⟩ : ByteArray)] : List ByteArray)) := ⟨_,rfl⟩
 replace H : (some y101) = some r := by first | (rw [hy101];with_reducible exact H) | (have H2_ := (Option.bind_some _ _).symm.trans H;rw [hy101];with_reducible exact H2_) | (have H2_ := (Option.bind_some _ _).symm.trans H;with_reducible exact H2_) | with_reducible exact H | (rw [hy101];exact H) | exact H
 have Ny101 := qq.mk hy101
 clear hy101
 obtain rfl := Option.some.inj H
 go_enter Tryz.func21,Tryz.ntmps21
 go_wp2_with (first | ((with_reducible refine gate_dst (N := 1) rfl ?_);refine Kd.R_lit Kd.string _ 9 ?hg (N := 1) ?hd (xs := ([(⟨#[]⟩ : ByteArray),(⟨#[61,61]⟩ : ByteArray),(⟨#[60]⟩ : ByteArray),(⟨#[60,61]⟩ : ByteArray),(⟨#[105,110]⟩ : ByteArray)] : List ByteArray)) (inner := [.string (⟨#[]⟩ : ByteArray),.string (⟨#[61,61]⟩ : ByteArray),.string (⟨#[60]⟩ : ByteArray),.string (⟨#[60,61]⟩ : ByteArray),.string (⟨#[105,110]⟩ : ByteArray)]) (ok := fun _ => True) (okp := fun _ => True) ?hr ?hp (fun _ hk => hk) trivial (Below.refl _ _) (Nat.le_refl _) (by simp) ?_;(case hd => rfl);(case hg => rfl);(case hr => first | (go_simp;done) | (go_simp;rfl));(case hp => exact (Reps.one (show Kd.M Kd.string _ _ _ (⟨#[]⟩ : ByteArray) [.string (⟨#[]⟩ : ByteArray)] from rfl) (Reps.one (show Kd.M Kd.string _ _ _ (⟨#[61,61]⟩ : ByteArray) [.string (⟨#[61,61]⟩ : ByteArray)] from rfl) (Reps.one (show Kd.M Kd.string _ _ _ (⟨#[60]⟩ : ByteArray) [.string (⟨#[60]⟩ : ByteArray)] from rfl) (Reps.one (show Kd.M Kd.string _ _ _ (⟨#[60,61]⟩ : ByteArray) [.string (⟨#[60,61]⟩ : ByteArray)] from rfl) (Reps.one (show Kd.M Kd.string _ _ _ (⟨#[105,110]⟩ : ByteArray) [.string (⟨#[105,110]⟩ : ByteArray)] from rfl) (Reps.none _ _)))))));intro v102 w1 ho2 hb hg_ hnew_;clear hg_ hnew_;(first | rw [← Ny101.out] at ho2 | (simp only [Int.reduceToNat] at ho2;rw [← Ny101.out] at ho2));have n0_ := qq.mk (Kd.R_lower ho2 (zw (by repeat (first | (with_reducible first | exact HB.out | apply qj | apply qz | apply qk) | exact HB.out))));have n1_ := qq.mk (zv (by repeat (first | (with_reducible first | exact HB.out | apply qj | apply qz | apply qk) | exact HB.out)) hb);clear HB;have HO103 := n0_;have HB := n1_;clear n0_ n1_;clear hb ho2))
 go_ret
 exact ⟨_,by first | rfl | (simp [*,jk,jj] <;> rfl),by (with_reducible repeat (first | apply Kd.jq | apply Kd.zx | apply Kd.jz));exact HO103.out,by repeat (first | (with_reducible first | exact HB.out | apply qj | apply qz | apply qk) | exact HB.out)⟩
end Go.Proofs.YtnbbbjfjkhglhaaGreatDoor.Pr
namespace Go.Proofs.YtnbbbjfjkhglhaaGreatDoor.Pr
open Go.RowKit Go.Proofs.YtnbbbjfjkhglhaaGreatDoorW.PrintWords Go.Proofs.YtnbbbjfjkhglhaaGreatDoorW.PrintLast Go.Proofs.YtnbbbjfjkhglhaaGreatDoorW.PrintMore
attribute [local go_sem] max2_int min2_int max_two min_two max_three min_three max_four min_four
set_option linter.unusedVariables false
set_option linter.unusedSimpArgs false
def qvz.l0 : Nat → Int → ByteArray → Option (ByteArray)
 | 0,_,_ => none
 | k + 1,x0,x3 => if x0 = 0 then (some x3) else (if (Int.tmod x0 10) < 0 then ((some (([(wrap64 (48 + (wrap64 (-(Int.tmod x0 10))))) % 256] : List Int) : List Int)).bind fun y101 => (if (strOfNums y101).size + x3.size ≤ 9223372036854775807 then (qvz.l0 k (wrap64 (Int.tdiv x0 10)) ((strOfNums y101) ++ x3)) else (none))) else ((some (([(wrap64 (48 + (Int.tmod x0 10))) % 256] : List Int) : List Int)).bind fun y104 => (if (strOfNums y104).size + x3.size ≤ 9223372036854775807 then (qvz.l0 k (wrap64 (Int.tdiv x0 10)) ((strOfNums y104) ++ x3)) else (none))))
def qvz.f (k : Nat) (a0 : Int) : Option (ByteArray) := if a0 = 0 then (some (⟨#[48]⟩ : ByteArray)) else (qvz.l0 k a0 (⟨#[]⟩ : ByteArray))
set_option maxHeartbeats 8000000 in
set_option maxRecDepth 100000 in
theorem qvz.calls (k : Nat) (a0 : Int) (r : ByteArray) (w : World) (h : qvz.f k a0 = some r) :
  Calls Tryz.prog 49 #[.int .i64 a0] w fun e w' => e = .returned (.string r) ∧ Below w.heap.size w w' := by
 have HB := qq.mk (Below.refl w.heap.size w)
 have H : (if a0 = 0 then (some (⟨#[48]⟩ : ByteArray)) else (qvz.l0 k a0 (⟨#[]⟩ : ByteArray))) = some r := h
 clear h
 by_cases c2 : a0 = 0
 ·rw [if_pos c2] at H
  have c2b0 : (a0 == 0) = true := beq_iff_eq.mpr c2
  have c2b1 : (a0 != 0) = false := bne_eq_false_iff_eq.mpr c2
  clear c2
  obtain rfl := Option.some.inj H
  go_enter Tryz.func49,Tryz.ntmps49
  go_wp2
  go_ret
  exact ⟨by first | rfl | (simp [*,jk,jj] <;> rfl),by repeat (first | (with_reducible first | exact HB.out | apply qj | apply qz | apply qk) | exact HB.out)⟩
 ·rw [if_neg c2] at H
  have c2b0 : (a0 == 0) = false := beq_eq_false_iff_ne.mpr c2
  have c2b1 : (a0 != 0) = true := bne_iff_ne.mpr c2
  have H' := qq.mk H
  clear H
  go_enter Tryz.func49,Tryz.ntmps49
  go_wp2
  go_loopg [0,3] k (fun kq v0 v3 w' => ∃ (x0_1 : Int) (x3_1 : ByteArray),v0 = .int .i64 x0_1 ∧ v3 = .string x3_1 ∧ qq (qvz.l0 kq x0_1 x3_1 = some r) ∧ qq (kq ≤ k) ∧ qq (Below w.heap.size w w'))
  case atStart => exact ⟨(a0),((⟨#[]⟩ : ByteArray)),(by first | rfl | (simp;done) | (simp [*];done)),(by first | rfl | (simp;done) | (simp [*];done)),H',⟨Nat.le_refl _⟩,⟨by repeat (first | (with_reducible first | exact HB.out | apply qj | apply qz | apply qk) | exact HB.out)⟩⟩
  case round =>
   clear H'
   try clear c2
   try clear c2b0
   try clear c2b1
   try clear p2
   obtain ⟨x0_1,x3_1,rfl,rfl,HA,HK1,HB⟩ := hrel
   cases gk with
   | zero => exact absurd HA.out (by simp [qvz.l0])
   | succ k1 =>
    have H := HA.out
    clear HA
    simp only [qvz.l0] at H
    by_cases c3 : x0_1 = 0
    ·rw [if_pos c3] at H
     have c3b0 : (x0_1 == 0) = true := beq_iff_eq.mpr c3
     have c3b1 : (x0_1 != 0) = false := bne_eq_false_iff_eq.mpr c3
     clear c3
     obtain rfl := Option.some.inj H
     go_wp2
     go_ret
     exact ⟨by first | rfl | (simp [*,jk,jj] <;> rfl),by repeat (first | (with_reducible first | exact HB.out | apply qj | apply qz | apply qk) | exact HB.out)⟩
    ·rw [if_neg c3] at H
     have c3b0 : (x0_1 == 0) = false := beq_eq_false_iff_ne.mpr c3
     have c3b1 : (x0_1 != 0) = true := bne_iff_ne.mpr c3
     by_cases c4 : (Int.tmod x0_1 10) < 0
     ·rw [if_pos c4] at H
      have c4b0 : decide ((Int.tmod x0_1 10) < 0) = true := decide_eq_true c4
      clear c4
      obtain ⟨y101,hy101⟩ : ∃ y_ : List Int,y_ = (([(wrap64 (48 + (wrap64 (-(Int.tmod x0_1 10))))) % 256] : List Int)) := ⟨_,rfl⟩
      replace H : (if (strOfNums y101).size + x3_1.size ≤ 9223372036854775807 then (qvz.l0 k1 (wrap64 (Int.tdiv x0_1 10)) ((strOfNums y101) ++ x3_1)) else (none)) = some r := by first | (rw [hy101];with_reducible exact H) | (have H2_ := (Option.bind_some _ _).symm.trans H;rw [hy101];with_reducible exact H2_) | (have H2_ := (Option.bind_some _ _).symm.trans H;with_reducible exact H2_) | with_reducible exact H | (rw [hy101];exact H) | exact H
      have Ny101 := qq.mk hy101
      clear hy101
      by_cases c5 : (strOfNums y101).size + x3_1.size ≤ 9223372036854775807
      ·rw [if_pos c5] at H
       have c5b0 := eq_true c5
       have c5b1 : decide ((strOfNums y101).size + x3_1.size ≤ 9223372036854775807) = true := decide_eq_true c5
       try have c5b2 : (9223372036854775807 < (strOfNums y101).size + x3_1.size) = False := eq_false (Nat.not_lt.2 c5)
       have H' := qq.mk H
       clear H
       go_wp2_with (first | ((with_reducible refine gate_dst (N := 18) rfl ?_);refine Kd.R_lit (Kd.int .u8) _ 5 ?hg (N := 18) ?hd (xs := ([(wrap64 (48 + (wrap64 (-(Int.tmod x0_1 10))))) % 256] : List Int)) (inner := [.int .u8 ((wrap64 (48 + (wrap64 (-(Int.tmod x0_1 10))))) % 256)]) (ok := fun _ => True) (okp := fun _ => True) ?hr ?hp (fun _ hk => hk) trivial (Below.refl _ _) (Nat.le_refl _) (by simp) ?_;(case hd => rfl);(case hg => rfl);(case hr => first | (go_simp;done) | (go_simp;rfl));(case hp => exact (Reps.one (show Kd.M (Kd.int .u8) _ _ _ ((wrap64 (48 + (wrap64 (-(Int.tmod x0_1 10))))) % 256) [.int .u8 ((wrap64 (48 + (wrap64 (-(Int.tmod x0_1 10))))) % 256)] from rfl) (Reps.none _ _)));intro v102 w6 ho7 hb hg_ hnew_;clear hg_ hnew_;(first | rw [← Ny101.out] at ho7 | (simp only [Int.reduceToNat] at ho7;rw [← Ny101.out] at ho7));have n0_ := qq.mk (Kd.R_lower ho7 (zw (by repeat (first | (with_reducible first | exact HB.out | apply qj | apply qz | apply qk) | exact HB.out))));have n1_ := qq.mk (zv (by repeat (first | (with_reducible first | exact HB.out | apply qj | apply qz | apply qk) | exact HB.out)) hb);clear HB;have HO103 := n0_;have HB := n1_;clear n0_ n1_;clear hb ho7;have hcv8 := own_string (P := Tryz.prog) Tryz.underlying34 Tryz.underlying5 Tryz.underlying9 (Kd.own_of_R HO103.out)))
       go_roundg k1
       case measure => have := HK1.out;omega
       case rel => exact ⟨(wrap64 (Int.tdiv x0_1 10)),((strOfNums y101) ++ x3_1),(by first | rfl | (simp;done) | (simp [*];done)),(by first | rfl | (simp;done) | (simp [*];done)),H',⟨by have := HK1.out;omega⟩,⟨by repeat (first | (with_reducible first | exact HB.out | apply qj | apply qz | apply qk) | exact HB.out)⟩⟩
      ·rw [if_neg c5] at H
       exact absurd H (by simp)
     ·rw [if_neg c4] at H
      have c4b0 : decide ((Int.tmod x0_1 10) < 0) = false := decide_eq_false c4
      clear c4
      obtain ⟨y104,hy104⟩ : ∃ y_ : List Int,y_ = (([(wrap64 (48 + (Int.tmod x0_1 10))) % 256] : List Int)) := ⟨_,rfl⟩
      replace H : (if (strOfNums y104).size + x3_1.size ≤ 9223372036854775807 then (qvz.l0 k1 (wrap64 (Int.tdiv x0_1 10)) ((strOfNums y104) ++ x3_1)) else (none)) = some r := by first | (rw [hy104];with_reducible exact H) | (have H2_ := (Option.bind_some _ _).symm.trans H;rw [hy104];with_reducible exact H2_) | (have H2_ := (Option.bind_some _ _).symm.trans H;with_reducible exact H2_) | with_reducible exact H | (rw [hy104];exact H) | exact H
      have Ny104 := qq.mk hy104
      clear hy104
      by_cases c9 : (strOfNums y104).size + x3_1.size ≤ 9223372036854775807
      ·rw [if_pos c9] at H
       have c9b0 := eq_true c9
       have c9b1 : decide ((strOfNums y104).size + x3_1.size ≤ 9223372036854775807) = true := decide_eq_true c9
       try have c9b2 : (9223372036854775807 < (strOfNums y104).size + x3_1.size) = False := eq_false (Nat.not_lt.2 c9)
       have H' := qq.mk H
       clear H
       go_wp2_with (first | ((with_reducible refine gate_dst (N := 18) rfl ?_);refine Kd.R_lit (Kd.int .u8) _ 5 ?hg (N := 18) ?hd (xs := ([(wrap64 (48 + (Int.tmod x0_1 10))) % 256] : List Int)) (inner := [.int .u8 ((wrap64 (48 + (Int.tmod x0_1 10))) % 256)]) (ok := fun _ => True) (okp := fun _ => True) ?hr ?hp (fun _ hk => hk) trivial (Below.refl _ _) (Nat.le_refl _) (by simp) ?_;(case hd => rfl);(case hg => rfl);(case hr => first | (go_simp;done) | (go_simp;rfl));(case hp => exact (Reps.one (show Kd.M (Kd.int .u8) _ _ _ ((wrap64 (48 + (Int.tmod x0_1 10))) % 256) [.int .u8 ((wrap64 (48 + (Int.tmod x0_1 10))) % 256)] from rfl) (Reps.none _ _)));intro v105 w10 ho11 hb hg_ hnew_;clear hg_ hnew_;(first | rw [← Ny104.out] at ho11 | (simp only [Int.reduceToNat] at ho11;rw [← Ny104.out] at ho11));have n0_ := qq.mk (Kd.R_lower ho11 (zw (by repeat (first | (with_reducible first | exact HB.out | apply qj | apply qz | apply qk) | exact HB.out))));have n1_ := qq.mk (zv (by repeat (first | (with_reducible first | exact HB.out | apply qj | apply qz | apply qk) | exact HB.out)) hb);clear HB;have HO106 := n0_;have HB := n1_;clear n0_ n1_;clear hb ho11;have hcv12 := own_string (P := Tryz.prog) Tryz.underlying34 Tryz.underlying5 Tryz.underlying9 (Kd.own_of_R HO106.out)))
       go_roundg k1
       case measure => have := HK1.out;omega
       case rel => exact ⟨(wrap64 (Int.tdiv x0_1 10)),((strOfNums y104) ++ x3_1),(by first | rfl | (simp;done) | (simp [*];done)),(by first | rfl | (simp;done) | (simp [*];done)),H',⟨by have := HK1.out;omega⟩,⟨by repeat (first | (with_reducible first | exact HB.out | apply qj | apply qz | apply qk) | exact HB.out)⟩⟩
      ·rw [if_neg c9] at H
       exact absurd H (by simp)
end Go.Proofs.YtnbbbjfjkhglhaaGreatDoor.Pr
namespace Go.Proofs.YtnbbbjfjkhglhaaGreatDoor.Pr
open Go.RowKit Go.Proofs.YtnbbbjfjkhglhaaGreatDoorW.PrintWords Go.Proofs.YtnbbbjfjkhglhaaGreatDoorW.PrintLast Go.Proofs.YtnbbbjfjkhglhaaGreatDoorW.PrintMore
attribute [local go_sem] max2_int min2_int max_two min_two max_three min_three max_four min_four
set_option linter.unusedVariables false
set_option linter.unusedSimpArgs false
def qkv.f (k : Nat) (a0 : Int) : Option (ByteArray) := if a0 < 0 then ((qvz.f k a0).bind fun t101 => (if 1 + t101.size ≤ 9223372036854775807 then (some ((⟨#[45]⟩ : ByteArray) ++ t101)) else (none))) else ((qvz.f k a0).bind fun t102 => (some t102))
set_option maxHeartbeats 8000000 in
set_option maxRecDepth 100000 in
theorem qkv.calls (k : Nat) (a0 : Int) (r : ByteArray) (w : World) (h : qkv.f k a0 = some r) :
  Calls Tryz.prog 47 #[.int .i64 a0] w fun e w' => e = .returned (.string r) ∧ Below w.heap.size w w' := by
 have HB := qq.mk (Below.refl w.heap.size w)
 have H : (if a0 < 0 then ((qvz.f k a0).bind fun t101 => (if 1 + t101.size ≤ 9223372036854775807 then (some ((⟨#[45]⟩ : ByteArray) ++ t101)) else (none))) else ((qvz.f k a0).bind fun t102 => (some t102))) = some r := h
 clear h
 by_cases c2 : a0 < 0
 ·rw [if_pos c2] at H
  have c2b0 : decide (a0 < 0) = true := decide_eq_true c2
  clear c2
  replace H := Option.bind_eq_some_iff.mp H
  obtain ⟨t101,A30,H⟩ := H
  replace H : (if 1 + t101.size ≤ 9223372036854775807 then (some ((⟨#[45]⟩ : ByteArray) ++ t101)) else (none)) = some r := H
  have A3 := qq.mk A30
  clear A30
  by_cases c4 : 1 + t101.size ≤ 9223372036854775807
  ·rw [if_pos c4] at H
   have c4b0 := eq_true c4
   have c4b1 : decide (1 + t101.size ≤ 9223372036854775807) = true := decide_eq_true c4
   try have c4b2 : (9223372036854775807 < 1 + t101.size) = False := eq_false (Nat.not_lt.2 c4)
   obtain rfl := Option.some.inj H
   go_enter Tryz.func47,Tryz.ntmps47
   go_wp2_with (first | ((with_reducible refine jv (f := 49) rfl ?_);refine goesL_ (some 6) rfl rfl Tryz.func49 (by kernel_rfl) rfl #[.int .i64 a0] rfl (by (try simp only [List.map_toArray,List.map_cons,List.map_nil]);first | done | rfl | (simp only [List.length_drop,List.length_take];rfl)) ?_;(with_reducible refine (qvz.calls k a0 t101 _ A3.out).mono ?_);rintro e w5 ⟨rfl,hb⟩;refine ⟨_,rfl,?_⟩;have n0_ := qq.mk (zv (by repeat (first | (with_reducible first | exact HB.out | apply qj | apply qz | apply qk) | exact HB.out)) hb);clear HB;have HB := n0_;clear n0_;(try clear hb);(try clear hb2);(try clear hk);(try clear hi)))
   go_ret
   exact ⟨by first | rfl | (simp [*,jk,jj] <;> rfl),by repeat (first | (with_reducible first | exact HB.out | apply qj | apply qz | apply qk) | exact HB.out)⟩
  ·rw [if_neg c4] at H
   exact absurd H (by simp)
 ·rw [if_neg c2] at H
  have c2b0 : decide (a0 < 0) = false := decide_eq_false c2
  clear c2
  replace H := Option.bind_eq_some_iff.mp H
  obtain ⟨t102,A60,H⟩ := H
  replace H : (some t102) = some r := H
  have A6 := qq.mk A60
  clear A60
  obtain rfl := Option.some.inj H
  go_enter Tryz.func47,Tryz.ntmps47
  go_wp2_with (first | ((with_reducible refine jv (f := 49) rfl ?_);refine goesL_ (some 9) rfl rfl Tryz.func49 (by kernel_rfl) rfl #[.int .i64 a0] rfl (by (try simp only [List.map_toArray,List.map_cons,List.map_nil]);first | done | rfl | (simp only [List.length_drop,List.length_take];rfl)) ?_;(with_reducible refine (qvz.calls k a0 t102 _ A6.out).mono ?_);rintro e w7 ⟨rfl,hb⟩;refine ⟨_,rfl,?_⟩;have n0_ := qq.mk (zv (by repeat (first | (with_reducible first | exact HB.out | apply qj | apply qz | apply qk) | exact HB.out)) hb);clear HB;have HB := n0_;clear n0_;(try clear hb);(try clear hb2);(try clear hk);(try clear hi)))
  go_ret
  exact ⟨by first | rfl | (simp [*,jk,jj] <;> rfl),by repeat (first | (with_reducible first | exact HB.out | apply qj | apply qz | apply qk) | exact HB.out)⟩
end Go.Proofs.YtnbbbjfjkhglhaaGreatDoor.Pr
namespace Go.Proofs.YtnbbbjfjkhglhaaGreatDoor.Pr
open Go.RowKit Go.Proofs.YtnbbbjfjkhglhaaGreatDoorW.PrintWords Go.Proofs.YtnbbbjfjkhglhaaGreatDoorW.PrintLast Go.Proofs.YtnbbbjfjkhglhaaGreatDoorW.PrintMore
attribute [local go_sem] max2_int min2_int max_two min_two max_three min_three max_four min_four
set_option linter.unusedVariables false
set_option linter.unusedSimpArgs false
def qvq.l0 : Nat → ByteArray → List Int → Int → Option (ByteArray)
 | 0,_,_,_ => none
 | k + 1,x0,x3,x4 => if x4 < (x0.size : Int) then (if 0 ≤ x4 then (if (bt x0 x4) = 34 then (if x3.length < 140737488355328 then ((some (x3 ++ [92] : List Int)).bind fun y104 => (if y104.length < 140737488355328 then (qvq.l0 k x0 (y104 ++ [bt x0 x4]) (wrap64 (x4 + 1))) else (none))) else (none)) else (if (bt x0 x4) = 92 then (if x3.length < 140737488355328 then ((some (x3 ++ [92] : List Int)).bind fun y110 => (if y110.length < 140737488355328 then (qvq.l0 k x0 (y110 ++ [bt x0 x4]) (wrap64 (x4 + 1))) else (none))) else (none)) else (if x3.length < 140737488355328 then (qvq.l0 k x0 (x3 ++ [bt x0 x4]) (wrap64 (x4 + 1))) else (none)))) else (none)) else (if x3.length < 140737488355328 then (some (strOfNums (x3 ++ [34]))) else (none))
def qvq.f (k : Nat) (a0 : ByteArray) : Option (ByteArray) := qvq.l0 k a0 (([34] : List Int)) 0
set_option maxHeartbeats 8000000 in
set_option maxRecDepth 100000 in
theorem qvq.calls (k : Nat) (a0 : ByteArray) (r : ByteArray) (w : World) (h : qvq.f k a0 = some r) :
  Calls Tryz.prog 48 #[.string a0] w fun e w' => e = .returned (.string r) ∧ Below w.heap.size w w' := by
 have HB := qq.mk (Below.refl w.heap.size w)
 have H : (qvq.l0 k a0 (([34] : List Int)) 0) = some r := h
 clear h
 obtain ⟨y101,hy101⟩ : ∃ y_ : List Int,y_ = (([34] : List Int)) := ⟨_,rfl⟩
 replace H : (qvq.l0 k a0 y101 0) = some r := by first | (rw [hy101];with_reducible exact H) | (have H2_ := (Option.bind_some _ _).symm.trans H;rw [hy101];with_reducible exact H2_) | (have H2_ := (Option.bind_some _ _).symm.trans H;with_reducible exact H2_) | with_reducible exact H | (rw [hy101];exact H) | exact H
 have Ny101 := qq.mk hy101
 clear hy101
 have H' := qq.mk H
 clear H
 go_enter Tryz.func48,Tryz.ntmps48
 go_wp2_with (first | ((with_reducible refine gate_dst (N := 5) rfl ?_);refine Kd.R_lit (Kd.int .u8) _ 5 ?hg (N := 5) ?hd (xs := ([34] : List Int)) (inner := [.int .u8 34]) (ok := fun _ => True) (okp := fun _ => True) ?hr ?hp (fun _ hk => hk) trivial (Below.refl _ _) (Nat.le_refl _) (by simp) ?_;(case hd => rfl);(case hg => rfl);(case hr => first | (go_simp;done) | (go_simp;rfl));(case hp => exact (Reps.one (show Kd.M (Kd.int .u8) _ _ _ 34 [.int .u8 34] from rfl) (Reps.none _ _)));intro v102 w2 ho3 hb hg_ hnew_;clear hg_ hnew_;(first | rw [← Ny101.out] at ho3 | (simp only [Int.reduceToNat] at ho3;rw [← Ny101.out] at ho3));have n0_ := qq.mk (Kd.R_lower ho3 (zw (by repeat (first | (with_reducible first | exact HB.out | apply qj | apply qz | apply qk) | exact HB.out))));have n1_ := qq.mk (zv (by repeat (first | (with_reducible first | exact HB.out | apply qj | apply qz | apply qk) | exact HB.out)) hb);clear HB;have HO103 := n0_;have HB := n1_;clear n0_ n1_;clear hb ho3))
 go_loopg [3,4] k (fun kq v3 v4 w' => ∃ (x3_1 : List Int) (x4_1 : Int),v4 = .int .i64 x4_1 ∧ qq (qvq.l0 kq a0 x3_1 x4_1 = some r) ∧ qq (kq ≤ k) ∧ qq (Kd.R (Kd.int .u8) 5 w' w.heap.size (fun _ => True) v3 x3_1) ∧ qq (Below w.heap.size w w'))
 case atStart => exact ⟨(y101),(0),(by first | rfl | (simp;done) | (simp [*];done)),H',⟨Nat.le_refl _⟩,⟨by (with_reducible repeat (first | apply Kd.jq | apply Kd.zx | apply Kd.jz));exact HO103.out⟩,⟨by repeat (first | (with_reducible first | exact HB.out | apply qj | apply qz | apply qk) | exact HB.out)⟩⟩
 case round =>
  clear H'
  try clear p2
  obtain ⟨x3_1,x4_1,rfl,HA,HK1,HO_3,HB⟩ := hrel
  cases gk with
  | zero => exact absurd HA.out (by simp [qvq.l0])
  | succ k1 =>
   have H := HA.out
   clear HA
   simp only [qvq.l0] at H
   by_cases c4 : x4_1 < (a0.size : Int)
   ·rw [if_pos c4] at H
    have c4b0 : decide (x4_1 < (a0.size : Int)) = true := decide_eq_true c4
    clear c4
    by_cases c5 : 0 ≤ x4_1
    ·rw [if_pos c5] at H
     have c5b0 : decide (0 ≤ x4_1) = true := decide_eq_true c5
     clear c5
     by_cases c7 : (bt a0 x4_1) = 34
     ·rw [if_pos c7] at H
      have c7b0 : ((bt a0 x4_1) == 34) = true := beq_iff_eq.mpr c7
      have c7b1 : ((bt a0 x4_1) != 34) = false := bne_eq_false_iff_eq.mpr c7
      clear c7
      by_cases c8 : x3_1.length < 140737488355328
      ·rw [if_pos c8] at H
       have LMc8 := qq.mk c8
       clear c8
       obtain ⟨y104,hy104⟩ : ∃ y_ : List Int,y_ = (x3_1 ++ [92]) := ⟨_,rfl⟩
       replace H : (if y104.length < 140737488355328 then (qvq.l0 k1 a0 (y104 ++ [bt a0 x4_1]) (wrap64 (x4_1 + 1))) else (none)) = some r := by first | (rw [hy104];with_reducible exact H) | (have H2_ := (Option.bind_some _ _).symm.trans H;rw [hy104];with_reducible exact H2_) | (have H2_ := (Option.bind_some _ _).symm.trans H;with_reducible exact H2_) | with_reducible exact H | (rw [hy104];exact H) | exact H
       have Ny104 := qq.mk hy104
       clear hy104
       by_cases c10 : y104.length < 140737488355328
       ·rw [if_pos c10] at H
        have LMc10 := qq.mk c10
        clear c10
        obtain ⟨y107,hy107⟩ : ∃ y_ : List Int,y_ = (y104 ++ [bt a0 x4_1]) := ⟨_,rfl⟩
        replace H : (qvq.l0 k1 a0 y107 (wrap64 (x4_1 + 1))) = some r := by first | (rw [hy107];with_reducible exact H) | (have H2_ := (Option.bind_some _ _).symm.trans H;rw [hy107];with_reducible exact H2_) | (have H2_ := (Option.bind_some _ _).symm.trans H;with_reducible exact H2_) | with_reducible exact H | (rw [hy107];exact H) | exact H
        have Ny107 := qq.mk hy107
        clear hy107
        have H' := qq.mk H
        clear H
        have p6 : 0 ≤ (x4_1 : Int) := of_decide_eq_true (by assumption)
        have q6 : x4_1 < (a0.size : Int) := of_decide_eq_true (by assumption)
        have hx6 := bt_at a0 x4_1
        replace p6 := eq_true p6
        replace q6 := eq_true q6
        go_wp2_with (first | ((with_reducible refine gate_builtin (b := .append) (xs := #[.tmp 22,.tmp 23]) rfl ?_);at_builtin;refine Kd.R_append (Kd.int .u8) (w0 := w) w.heap.size rfl (.tmp 22) (.tmp 23) 34 5 (.int .u8 0) 1 rfl Tryz.underlying34 info5 rfl (by decide) (by omega) u3 x3_1 92 [.int .u8 92] (fun _ => True) (fun _ => False) rfl rfl ?aP (fun _ hk => hk.elim) ?aF ?aO ?aB ?aS ?aL ?_;(case aP => exact rfl);(case aB => exact (by repeat (first | (with_reducible first | exact HB.out | apply qj | apply qz | apply qk) | exact HB.out)));(case aF => exact (fun _ _ => trivial));(case aO => exact (by (with_reducible repeat (first | apply Kd.jq | apply Kd.zx | apply Kd.jz));exact HO_3.out));(case aS => exact (zw (by repeat (first | (with_reducible first | exact HB.out | apply qj | apply qz | apply qk) | exact HB.out))));(case aL => have := LMc8.out;omega);intro v105 w11 ho hb hg hat;rw [← Ny104.out] at ho;have n0_ := qq.mk (hb);have n1_ := qq.mk (ho);clear HB;clear HO_3;have HB := n0_;have HO106 := n1_;clear n0_ n1_;clear ho hb hg hat;have p9 : 0 ≤ (x4_1 : Int) := of_decide_eq_true (by assumption);have q9 : x4_1 < (a0.size : Int) := of_decide_eq_true (by assumption);have hx9 := bt_at a0 x4_1;replace p9 := eq_true p9;replace q9 := eq_true q9) | ((with_reducible refine gate_builtin (b := .append) (xs := #[.tmp 25,.tmp 29]) rfl ?_);at_builtin;refine Kd.R_append (Kd.int .u8) (w0 := w) w.heap.size rfl (.tmp 25) (.tmp 29) 34 5 (.int .u8 0) 1 rfl Tryz.underlying34 info5 rfl (by decide) (by omega) v105 y104 (bt a0 x4_1) [.int .u8 (bt a0 x4_1)] (fun _ => True) (fun _ => False) rfl rfl ?aP (fun _ hk => hk.elim) ?aF ?aO ?aB ?aS ?aL ?_;(case aP => exact rfl);(case aB => exact (by repeat (first | (with_reducible first | exact HB.out | apply qj | apply qz | apply qk) | exact HB.out)));(case aF => exact (fun _ _ => trivial));(case aO => exact (by (with_reducible repeat (first | apply Kd.jq | apply Kd.zx | apply Kd.jz));exact HO106.out));(case aS => exact (zw (by repeat (first | (with_reducible first | exact HB.out | apply qj | apply qz | apply qk) | exact HB.out))));(case aL => have := LMc10.out;omega);intro v108 w12 ho hb hg hat;rw [← Ny107.out] at ho;have n0_ := qq.mk (hb);have n1_ := qq.mk (ho);clear HB;clear HO106;have HB := n0_;have HO109 := n1_;clear n0_ n1_;clear ho hb hg hat))
        go_roundg k1
        case measure => have := HK1.out;omega
        case rel => exact ⟨(y107),(wrap64 (x4_1 + 1)),(by first | rfl | (simp;done) | (simp [*];done)),H',⟨by have := HK1.out;omega⟩,⟨by (with_reducible repeat (first | apply Kd.jq | apply Kd.zx | apply Kd.jz));exact HO109.out⟩,⟨by repeat (first | (with_reducible first | exact HB.out | apply qj | apply qz | apply qk) | exact HB.out)⟩⟩
       ·rw [if_neg c10] at H
        exact absurd H (by simp)
      ·rw [if_neg c8] at H
       exact absurd H (by simp)
     ·rw [if_neg c7] at H
      have c7b0 : ((bt a0 x4_1) == 34) = false := beq_eq_false_iff_ne.mpr c7
      have c7b1 : ((bt a0 x4_1) != 34) = true := bne_iff_ne.mpr c7
      by_cases c14 : (bt a0 x4_1) = 92
      ·rw [if_pos c14] at H
       have c14b0 : ((bt a0 x4_1) == 92) = true := beq_iff_eq.mpr c14
       have c14b1 : ((bt a0 x4_1) != 92) = false := bne_eq_false_iff_eq.mpr c14
       clear c14
       by_cases c15 : x3_1.length < 140737488355328
       ·rw [if_pos c15] at H
        have LMc15 := qq.mk c15
        clear c15
        obtain ⟨y110,hy110⟩ : ∃ y_ : List Int,y_ = (x3_1 ++ [92]) := ⟨_,rfl⟩
        replace H : (if y110.length < 140737488355328 then (qvq.l0 k1 a0 (y110 ++ [bt a0 x4_1]) (wrap64 (x4_1 + 1))) else (none)) = some r := by first | (rw [hy110];with_reducible exact H) | (have H2_ := (Option.bind_some _ _).symm.trans H;rw [hy110];with_reducible exact H2_) | (have H2_ := (Option.bind_some _ _).symm.trans H;with_reducible exact H2_) | with_reducible exact H | (rw [hy110];exact H) | exact H
        have Ny110 := qq.mk hy110
        clear hy110
        by_cases c17 : y110.length < 140737488355328
        ·rw [if_pos c17] at H
         have LMc17 := qq.mk c17
         clear c17
         obtain ⟨y113,hy113⟩ : ∃ y_ : List Int,y_ = (y110 ++ [bt a0 x4_1]) := ⟨_,rfl⟩
         replace H : (qvq.l0 k1 a0 y113 (wrap64 (x4_1 + 1))) = some r := by first | (rw [hy113];with_reducible exact H) | (have H2_ := (Option.bind_some _ _).symm.trans H;rw [hy113];with_reducible exact H2_) | (have H2_ := (Option.bind_some _ _).symm.trans H;with_reducible exact H2_) | with_reducible exact H | (rw [hy113];exact H) | exact H
         have Ny113 := qq.mk hy113
         clear hy113
         have H' := qq.mk H
         clear H
         have p6 : 0 ≤ (x4_1 : Int) := of_decide_eq_true (by assumption)
         have q6 : x4_1 < (a0.size : Int) := of_decide_eq_true (by assumption)
         have hx6 := bt_at a0 x4_1
         replace p6 := eq_true p6
         replace q6 := eq_true q6
         have p13 : 0 ≤ (x4_1 : Int) := of_decide_eq_true (by assumption)
         have q13 : x4_1 < (a0.size : Int) := of_decide_eq_true (by assumption)
         have hx13 := bt_at a0 x4_1
         replace p13 := eq_true p13
         replace q13 := eq_true q13
         go_wp2_with (first | ((with_reducible refine gate_builtin (b := .append) (xs := #[.tmp 22,.tmp 23]) rfl ?_);at_builtin;refine Kd.R_append (Kd.int .u8) (w0 := w) w.heap.size rfl (.tmp 22) (.tmp 23) 34 5 (.int .u8 0) 1 rfl Tryz.underlying34 info5 rfl (by decide) (by omega) u3 x3_1 92 [.int .u8 92] (fun _ => True) (fun _ => False) rfl rfl ?aP (fun _ hk => hk.elim) ?aF ?aO ?aB ?aS ?aL ?_;(case aP => exact rfl);(case aB => exact (by repeat (first | (with_reducible first | exact HB.out | apply qj | apply qz | apply qk) | exact HB.out)));(case aF => exact (fun _ _ => trivial));(case aO => exact (by (with_reducible repeat (first | apply Kd.jq | apply Kd.zx | apply Kd.jz));exact HO_3.out));(case aS => exact (zw (by repeat (first | (with_reducible first | exact HB.out | apply qj | apply qz | apply qk) | exact HB.out))));(case aL => have := LMc15.out;omega);intro v111 w18 ho hb hg hat;rw [← Ny110.out] at ho;have n0_ := qq.mk (hb);have n1_ := qq.mk (ho);clear HB;clear HO_3;have HB := n0_;have HO112 := n1_;clear n0_ n1_;clear ho hb hg hat;have p16 : 0 ≤ (x4_1 : Int) := of_decide_eq_true (by assumption);have q16 : x4_1 < (a0.size : Int) := of_decide_eq_true (by assumption);have hx16 := bt_at a0 x4_1;replace p16 := eq_true p16;replace q16 := eq_true q16) | ((with_reducible refine gate_builtin (b := .append) (xs := #[.tmp 25,.tmp 29]) rfl ?_);at_builtin;refine Kd.R_append (Kd.int .u8) (w0 := w) w.heap.size rfl (.tmp 25) (.tmp 29) 34 5 (.int .u8 0) 1 rfl Tryz.underlying34 info5 rfl (by decide) (by omega) v111 y110 (bt a0 x4_1) [.int .u8 (bt a0 x4_1)] (fun _ => True) (fun _ => False) rfl rfl ?aP (fun _ hk => hk.elim) ?aF ?aO ?aB ?aS ?aL ?_;(case aP => exact rfl);(case aB => exact (by repeat (first | (with_reducible first | exact HB.out | apply qj | apply qz | apply qk) | exact HB.out)));(case aF => exact (fun _ _ => trivial));(case aO => exact (by (with_reducible repeat (first | apply Kd.jq | apply Kd.zx | apply Kd.jz));exact HO112.out));(case aS => exact (zw (by repeat (first | (with_reducible first | exact HB.out | apply qj | apply qz | apply qk) | exact HB.out))));(case aL => have := LMc17.out;omega);intro v114 w19 ho hb hg hat;rw [← Ny113.out] at ho;have n0_ := qq.mk (hb);have n1_ := qq.mk (ho);clear HB;clear HO112;have HB := n0_;have HO115 := n1_;clear n0_ n1_;clear ho hb hg hat))
         go_roundg k1
         case measure => have := HK1.out;omega
         case rel => exact ⟨(y113),(wrap64 (x4_1 + 1)),(by first | rfl | (simp;done) | (simp [*];done)),H',⟨by have := HK1.out;omega⟩,⟨by (with_reducible repeat (first | apply Kd.jq | apply Kd.zx | apply Kd.jz));exact HO115.out⟩,⟨by repeat (first | (with_reducible first | exact HB.out | apply qj | apply qz | apply qk) | exact HB.out)⟩⟩
        ·rw [if_neg c17] at H
         exact absurd H (by simp)
       ·rw [if_neg c15] at H
        exact absurd H (by simp)
      ·rw [if_neg c14] at H
       have c14b0 : ((bt a0 x4_1) == 92) = false := beq_eq_false_iff_ne.mpr c14
       have c14b1 : ((bt a0 x4_1) != 92) = true := bne_iff_ne.mpr c14
       by_cases c21 : x3_1.length < 140737488355328
       ·rw [if_pos c21] at H
        have LMc21 := qq.mk c21
        clear c21
        obtain ⟨y116,hy116⟩ : ∃ y_ : List Int,y_ = (x3_1 ++ [bt a0 x4_1]) := ⟨_,rfl⟩
        replace H : (qvq.l0 k1 a0 y116 (wrap64 (x4_1 + 1))) = some r := by first | (rw [hy116];with_reducible exact H) | (have H2_ := (Option.bind_some _ _).symm.trans H;rw [hy116];with_reducible exact H2_) | (have H2_ := (Option.bind_some _ _).symm.trans H;with_reducible exact H2_) | with_reducible exact H | (rw [hy116];exact H) | exact H
        have Ny116 := qq.mk hy116
        clear hy116
        have H' := qq.mk H
        clear H
        have p6 : 0 ≤ (x4_1 : Int) := of_decide_eq_true (by assumption)
        have q6 : x4_1 < (a0.size : Int) := of_decide_eq_true (by assumption)
        have hx6 := bt_at a0 x4_1
        replace p6 := eq_true p6
        replace q6 := eq_true q6
        have p13 : 0 ≤ (x4_1 : Int) := of_decide_eq_true (by assumption)
        have q13 : x4_1 < (a0.size : Int) := of_decide_eq_true (by assumption)
        have hx13 := bt_at a0 x4_1
        replace p13 := eq_true p13
        replace q13 := eq_true q13
        have p20 : 0 ≤ (x4_1 : Int) := of_decide_eq_true (by assumption)
        have q20 : x4_1 < (a0.size : Int) := of_decide_eq_true (by assumption)
        have hx20 := bt_at a0 x4_1
        replace p20 := eq_true p20
        replace q20 := eq_true q20
        go_wp2_with (first | ((with_reducible refine gate_builtin (b := .append) (xs := #[.tmp 25,.tmp 29]) rfl ?_);at_builtin;refine Kd.R_append (Kd.int .u8) (w0 := w) w.heap.size rfl (.tmp 25) (.tmp 29) 34 5 (.int .u8 0) 1 rfl Tryz.underlying34 info5 rfl (by decide) (by omega) u3 x3_1 (bt a0 x4_1) [.int .u8 (bt a0 x4_1)] (fun _ => True) (fun _ => False) rfl rfl ?aP (fun _ hk => hk.elim) ?aF ?aO ?aB ?aS ?aL ?_;(case aP => exact rfl);(case aB => exact (by repeat (first | (with_reducible first | exact HB.out | apply qj | apply qz | apply qk) | exact HB.out)));(case aF => exact (fun _ _ => trivial));(case aO => exact (by (with_reducible repeat (first | apply Kd.jq | apply Kd.zx | apply Kd.jz));exact HO_3.out));(case aS => exact (zw (by repeat (first | (with_reducible first | exact HB.out | apply qj | apply qz | apply qk) | exact HB.out))));(case aL => have := LMc21.out;omega);intro v117 w22 ho hb hg hat;rw [← Ny116.out] at ho;have n0_ := qq.mk (hb);have n1_ := qq.mk (ho);clear HB;clear HO_3;have HB := n0_;have HO118 := n1_;clear n0_ n1_;clear ho hb hg hat))
        go_roundg k1
        case measure => have := HK1.out;omega
        case rel => exact ⟨(y116),(wrap64 (x4_1 + 1)),(by first | rfl | (simp;done) | (simp [*];done)),H',⟨by have := HK1.out;omega⟩,⟨by (with_reducible repeat (first | apply Kd.jq | apply Kd.zx | apply Kd.jz));exact HO118.out⟩,⟨by repeat (first | (with_reducible first | exact HB.out | apply qj | apply qz | apply qk) | exact HB.out)⟩⟩
       ·rw [if_neg c21] at H
        exact absurd H (by simp)
    ·rw [if_neg c5] at H
     exact absurd H (by simp)
   ·rw [if_neg c4] at H
    have c4b0 : decide (x4_1 < (a0.size : Int)) = false := decide_eq_false c4
    clear c4
    by_cases c23 : x3_1.length < 140737488355328
    ·rw [if_pos c23] at H
     have LMc23 := qq.mk c23
     clear c23
     obtain ⟨y119,hy119⟩ : ∃ y_ : List Int,y_ = (x3_1 ++ [34]) := ⟨_,rfl⟩
     replace H : (some (strOfNums y119)) = some r := by first | (rw [hy119];with_reducible exact H) | (have H2_ := (Option.bind_some _ _).symm.trans H;rw [hy119];with_reducible exact H2_) | (have H2_ := (Option.bind_some _ _).symm.trans H;with_reducible exact H2_) | with_reducible exact H | (rw [hy119];exact H) | exact H
     have Ny119 := qq.mk hy119
     clear hy119
     obtain rfl := Option.some.inj H
     go_wp2_with (first | ((with_reducible refine gate_builtin (b := .append) (xs := #[.tmp 31,.tmp 32]) rfl ?_);at_builtin;refine Kd.R_append (Kd.int .u8) (w0 := w) w.heap.size rfl (.tmp 31) (.tmp 32) 34 5 (.int .u8 0) 1 rfl Tryz.underlying34 info5 rfl (by decide) (by omega) u3 x3_1 34 [.int .u8 34] (fun _ => True) (fun _ => False) rfl rfl ?aP (fun _ hk => hk.elim) ?aF ?aO ?aB ?aS ?aL ?_;(case aP => exact rfl);(case aB => exact (by repeat (first | (with_reducible first | exact HB.out | apply qj | apply qz | apply qk) | exact HB.out)));(case aF => exact (fun _ _ => trivial));(case aO => exact (by (with_reducible repeat (first | apply Kd.jq | apply Kd.zx | apply Kd.jz));exact HO_3.out));(case aS => exact (zw (by repeat (first | (with_reducible first | exact HB.out | apply qj | apply qz | apply qk) | exact HB.out))));(case aL => have := LMc23.out;omega);intro v120 w24 ho hb hg hat;rw [← Ny119.out] at ho;have n0_ := qq.mk (hb);have n1_ := qq.mk (ho);clear HB;clear HO_3;have HB := n0_;have HO121 := n1_;clear n0_ n1_;clear ho hb hg hat;have hcv25 := own_string (P := Tryz.prog) Tryz.underlying34 Tryz.underlying5 Tryz.underlying9 (Kd.own_of_R HO121.out)))
     go_ret
     exact ⟨by first | rfl | (simp [*,jk,jj] <;> rfl),by repeat (first | (with_reducible first | exact HB.out | apply qj | apply qz | apply qk) | exact HB.out)⟩
    ·rw [if_neg c23] at H
     exact absurd H (by simp)
end Go.Proofs.YtnbbbjfjkhglhaaGreatDoor.Pr
namespace Go.Proofs.YtnbbbjfjkhglhaaGreatDoor.Pr
open Go.RowKit Go.Proofs.YtnbbbjfjkhglhaaGreatDoorW.PrintWords Go.Proofs.YtnbbbjfjkhglhaaGreatDoorW.PrintLast Go.Proofs.YtnbbbjfjkhglhaaGreatDoorW.PrintMore
attribute [local go_sem] max2_int min2_int max_two min_two max_three min_three max_four min_four
set_option linter.unusedVariables false
set_option linter.unusedSimpArgs false
def qvj.l0 : Nat → ByteArray → Int → Int → ByteArray → ByteArray → Option (ByteArray)
 | 0,_,_,_,_,_ => none
 | k + 1,x3,x102000,x102001,x102002,x102003 => if (x3.size : Int) < 5 then (if 1 + x3.size ≤ 9223372036854775807 then (qvj.l0 k ((⟨#[48]⟩ : ByteArray) ++ x3) x102000 x102001 x102002 x102003) else (none)) else (if 0 ≤ (wrap64 ((x3.size : Int) - 4)) then (if (wrap64 ((x3.size : Int) - 4)) ≤ (x3.size : Int) then (if (x3.extract 0 ((wrap64 ((x3.size : Int) - 4)) : Int).toNat).size + 1 ≤ 9223372036854775807 then (if ((x3.extract 0 ((wrap64 ((x3.size : Int) - 4)) : Int).toNat) ++ (⟨#[46]⟩ : ByteArray)).size + (x3.extract ((wrap64 ((x3.size : Int) - 4)) : Int).toNat x3.size).size ≤ 9223372036854775807 then (if x102001 < 0 then (if 1 + (((x3.extract 0 ((wrap64 ((x3.size : Int) - 4)) : Int).toNat) ++ (⟨#[46]⟩ : ByteArray)) ++ (x3.extract ((wrap64 ((x3.size : Int) - 4)) : Int).toNat x3.size)).size ≤ 9223372036854775807 then (some ((⟨#[45]⟩ : ByteArray) ++ (((x3.extract 0 ((wrap64 ((x3.size : Int) - 4)) : Int).toNat) ++ (⟨#[46]⟩ : ByteArray)) ++ (x3.extract ((wrap64 ((x3.size : Int) - 4)) : Int).toNat x3.size)))) else (none)) else (some (((x3.extract 0 ((wrap64 ((x3.size : Int) - 4)) : Int).toNat) ++ (⟨#[46]⟩ : ByteArray)) ++ (x3.extract ((wrap64 ((x3.size : Int) - 4)) : Int).toNat x3.size)))) else (none)) else (none)) else (none)) else (none))
def qvj.f (k : Nat) (a0_0 : Int) (a0_1 : Int) (a0_2 : ByteArray) (a0_3 : ByteArray) : Option (ByteArray) := if a0_0 = 1 then (if a0_1 = 1 then (some (⟨#[116,114,117,101]⟩ : ByteArray)) else (some (⟨#[102,97,108,115,101]⟩ : ByteArray))) else (if a0_0 = 2 then ((qkv.f k a0_1).bind fun t102 => (some t102)) else (if a0_0 = 3 then ((qvq.f k a0_2).bind fun t103 => (some t103)) else (if a0_0 = 4 then (if a0_3.size + 2 ≤ 9223372036854775807 then ((qvq.f k a0_2).bind fun t104 => (if (a0_3 ++ (⟨#[58,58]⟩ : ByteArray)).size + t104.size ≤ 9223372036854775807 then (some ((a0_3 ++ (⟨#[58,58]⟩ : ByteArray)) ++ t104)) else (none))) else (none)) else (if a0_0 = 5 then ((qvz.f k a0_1).bind fun t105 => (qvj.l0 k t105 a0_0 a0_1 a0_2 a0_3)) else (if a0_0 = 6 then ((qkz.f k a0_0 a0_1 a0_2 a0_3).bind fun bt106 => ((qkv.f k (wrap64 (Int.tdiv bt106.1 16777216))).bind fun t108 => (if t108.size + 1 ≤ 9223372036854775807 then ((qkv.f k (Int.tmod (wrap64 (Int.tdiv bt106.1 65536)) 256)).bind fun t109 => (if (t108 ++ (⟨#[46]⟩ : ByteArray)).size + t109.size ≤ 9223372036854775807 then (if ((t108 ++ (⟨#[46]⟩ : ByteArray)) ++ t109).size + 1 ≤ 9223372036854775807 then ((qkv.f k (Int.tmod (wrap64 (Int.tdiv bt106.1 256)) 256)).bind fun t110 => (if (((t108 ++ (⟨#[46]⟩ : ByteArray)) ++ t109) ++ (⟨#[46]⟩ : ByteArray)).size + t110.size ≤ 9223372036854775807 then (if ((((t108 ++ (⟨#[46]⟩ : ByteArray)) ++ t109) ++ (⟨#[46]⟩ : ByteArray)) ++ t110).size + 1 ≤ 9223372036854775807 then ((qkv.f k (Int.tmod bt106.1 256)).bind fun t111 => (if (((((t108 ++ (⟨#[46]⟩ : ByteArray)) ++ t109) ++ (⟨#[46]⟩ : ByteArray)) ++ t110) ++ (⟨#[46]⟩ : ByteArray)).size + t111.size ≤ 9223372036854775807 then (if ((((((t108 ++ (⟨#[46]⟩ : ByteArray)) ++ t109) ++ (⟨#[46]⟩ : ByteArray)) ++ t110) ++ (⟨#[46]⟩ : ByteArray)) ++ t111).size + 1 ≤ 9223372036854775807 then ((qkv.f k (Int.tmod a0_1 64)).bind fun t112 => (if (((((((t108 ++ (⟨#[46]⟩ : ByteArray)) ++ t109) ++ (⟨#[46]⟩ : ByteArray)) ++ t110) ++ (⟨#[46]⟩ : ByteArray)) ++ t111) ++ (⟨#[47]⟩ : ByteArray)).size + t112.size ≤ 9223372036854775807 then (some ((((((((t108 ++ (⟨#[46]⟩ : ByteArray)) ++ t109) ++ (⟨#[46]⟩ : ByteArray)) ++ t110) ++ (⟨#[46]⟩ : ByteArray)) ++ t111) ++ (⟨#[47]⟩ : ByteArray)) ++ t112)) else (none))) else (none)) else (none))) else (none)) else (none))) else (none)) else (none))) else (none)))) else ((qkv.f k a0_1).bind fun t113 => (if 1 + t113.size ≤ 9223372036854775807 then (some ((⟨#[64]⟩ : ByteArray) ++ t113)) else (none))))))))
def qvj.T11 : Bool × List (List Nat × List Nat) := (true,[([],[]),([0],[0]),([1],[1]),([],[]),([3],[3]),([4],[4]),([2,5],[2,5]),([6,5,0,1,2,3,4,5,6],[6])])
def qvj.B11 : List Nat := [0,1,3,0,8,24,63,127]
theorem qvj.tab11 : rtab .any (opsOf Tryz.f22 11) = qvj.T11 := by kernel_rfl
theorem qvj.bits11 : waitsOk qvj.T11.2 qvj.B11 = true := by kernel_rfl
def qvj.T22 : Bool × List (List Nat × List Nat) := (true,[([],[]),([0],[0]),([1],[1]),([2],[2]),([],[]),([4],[4]),([5],[5]),([6,2],[6]),([3,7],[3,7]),([8],[8]),([],[]),([10],[10]),([11],[11]),([12,7],[12]),([9,13],[9,13]),([14],[14]),([],[]),([16],[16]),([17,13],[17]),([15,18],[15,18]),([19],[19]),([],[]),([21],[21]),([22],[22]),([23,18],[23]),([20,24],[20,24]),([25,24,0,1,2,3,4,5,6,7,8,9,10,11,12,13,14,15,16,17,18,19,20,21,22,23,24,25],[25])])
def qvj.B22 : List Nat := [0,1,3,7,0,16,48,119,255,511,0,1024,3072,7415,16383,32767,0,65536,212215,524287,1048575,0,2097152,6291456,15154423,33554431,67108863]
theorem qvj.tab22 : rtab .any (opsOf Tryz.f22 22) = qvj.T22 := by kernel_rfl
theorem qvj.bits22 : waitsOk qvj.T22.2 qvj.B22 = true := by kernel_rfl
set_option maxHeartbeats 8000000 in
set_option maxRecDepth 100000 in
theorem qvj.calls (k : Nat) (a0_0 : Int) (a0_1 : Int) (a0_2 : ByteArray) (a0_3 : ByteArray) (r : ByteArray) (w : World) (h : qvj.f k a0_0 a0_1 a0_2 a0_3 = some r) :
  Calls Tryz.prog 22 #[.agg #[.int .i64 a0_0,.int .i64 a0_1,.string a0_2,.string a0_3]] w fun e w' => e = .returned (.string r) ∧ Below w.heap.size w w' := by
 have hu28 := Tryz.underlying28
 have HB := qq.mk (Below.refl w.heap.size w)
 have H : (if a0_0 = 1 then (if a0_1 = 1 then (some (⟨#[116,114,117,101]⟩ : ByteArray)) else (some (⟨#[102,97,108,115,101]⟩ : ByteArray))) else (if a0_0 = 2 then ((qkv.f k a0_1).bind fun t102 => (some t102)) else (if a0_0 = 3 then ((qvq.f k a0_2).bind fun t103 => (some t103)) else (if a0_0 = 4 then (if a0_3.size + 2 ≤ 9223372036854775807 then ((qvq.f k a0_2).bind fun t104 => (if (a0_3 ++ (⟨#[58,58]⟩ : ByteArray)).size + t104.size ≤ 9223372036854775807 then (some ((a0_3 ++ (⟨#[58,58]⟩ : ByteArray)) ++ t104)) else (none))) else (none)) else (if a0_0 = 5 then ((qvz.f k a0_1).bind fun t105 => (qvj.l0 k t105 a0_0 a0_1 a0_2 a0_3)) else (if a0_0 = 6 then ((qkz.f k a0_0 a0_1 a0_2 a0_3).bind fun bt106 => ((qkv.f k (wrap64 (Int.tdiv bt106.1 16777216))).bind fun t108 => (if t108.size + 1 ≤ 9223372036854775807 then ((qkv.f k (Int.tmod (wrap64 (Int.tdiv bt106.1 65536)) 256)).bind fun t109 => (if (t108 ++ (⟨#[46]⟩ : ByteArray)).size + t109.size ≤ 9223372036854775807 then (if ((t108 ++ (⟨#[46]⟩ : ByteArray)) ++ t109).size + 1 ≤ 9223372036854775807 then ((qkv.f k (Int.tmod (wrap64 (Int.tdiv bt106.1 256)) 256)).bind fun t110 => (if (((t108 ++ (⟨#[46]⟩ : ByteArray)) ++ t109) ++ (⟨#[46]⟩ : ByteArray)).size + t110.size ≤ 9223372036854775807 then (if ((((t108 ++ (⟨#[46]⟩ : ByteArray)) ++ t109) ++ (⟨#[46]⟩ : ByteArray)) ++ t110).size + 1 ≤ 9223372036854775807 then ((qkv.f k (Int.tmod bt106.1 256)).bind fun t111 => (if (((((t108 ++ (⟨#[46]⟩ : ByteArray)) ++ t109) ++ (⟨#[46]⟩ : ByteArray)) ++ t110) ++ (⟨#[46]⟩ : ByteArray)).size + t111.size ≤ 9223372036854775807 then (if ((((((t108 ++ (⟨#[46]⟩ : ByteArray)) ++ t109) ++ (⟨#[46]⟩ : ByteArray)) ++ t110) ++ (⟨#[46]⟩ : ByteArray)) ++ t111).size + 1 ≤ 9223372036854775807 then ((qkv.f k (Int.tmod a0_1 64)).bind fun t112 => (if (((((((t108 ++ (⟨#[46]⟩ : ByteArray)) ++ t109) ++ (⟨#[46]⟩ : ByteArray)) ++ t110) ++ (⟨#[46]⟩ : ByteArray)) ++ t111) ++ (⟨#[47]⟩ : ByteArray)).size + t112.size ≤ 9223372036854775807 then (some ((((((((t108 ++ (⟨#[46]⟩ : ByteArray)) ++ t109) ++ (⟨#[46]⟩ : ByteArray)) ++ t110) ++ (⟨#[46]⟩ : ByteArray)) ++ t111) ++ (⟨#[47]⟩ : ByteArray)) ++ t112)) else (none))) else (none)) else (none))) else (none)) else (none))) else (none)) else (none))) else (none)))) else ((qkv.f k a0_1).bind fun t113 => (if 1 + t113.size ≤ 9223372036854775807 then (some ((⟨#[64]⟩ : ByteArray) ++ t113)) else (none))))))))) = some r := h
 clear h
 by_cases c2 : a0_0 = 1
 ·rw [if_pos c2] at H
  have c2b0 : (a0_0 == 1) = true := beq_iff_eq.mpr c2
  have c2b1 : (a0_0 != 1) = false := bne_eq_false_iff_eq.mpr c2
  clear c2
  by_cases c3 : a0_1 = 1
  ·rw [if_pos c3] at H
   have c3b0 : (a0_1 == 1) = true := beq_iff_eq.mpr c3
   have c3b1 : (a0_1 != 1) = false := bne_eq_false_iff_eq.mpr c3
   clear c3
   obtain rfl := Option.some.inj H
   go_enter Tryz.func22,Tryz.ntmps22
   go_wp2_with (first | ((with_reducible refine gate_dst (N := 1) rfl ?_);refine box_event ?hg (N := 1) ?hd (cs := #[.int .i64 a0_0,.int .i64 a0_1,.string a0_2,.string a0_3]) (t := 28) ?hr ?_;(case hd => rfl);(case hg => rfl);(case hr => first | (go_simp;done) | (go_simp;rfl));intro gb101 hg w4 hbox hb;have n0_ := qq.mk (zv (by repeat (first | (with_reducible first | exact HB.out | apply qj | apply qz | apply qk) | exact HB.out)) hb);have n1_ := qq.mk (hbox);have n2_ := qq.mk ((by rw [hg];exact (zw (by repeat (first | (with_reducible first | exact HB.out | apply qj | apply qz | apply qk) | exact HB.out))) : w.heap.size ≤ gb101));have n3_ := qq.mk ((by rw [hg];exact (zw (by repeat (first | (with_reducible first | exact HB.out | apply qj | apply qz | apply qk) | exact HB.out))) : w.heap.size ≤ gb101));clear HB;have HB := n0_;have BK101 := n1_;have GW101 := n2_;have GE101 := n3_;clear n0_ n1_ n2_ n3_;clear hb hbox hg;have hcz5_0 : w4.cell? ⟨gb101,0,none⟩ = some (.int .i64 a0_0) := (qw BK101.out 0).trans rfl;have hcz5_1 : w4.cell? ⟨gb101,1,none⟩ = some (.int .i64 a0_1) := (qw BK101.out 1).trans rfl;have hcz5_2 : w4.cell? ⟨gb101,2,none⟩ = some (.string a0_2) := (qw BK101.out 2).trans rfl;have hcz5_3 : w4.cell? ⟨gb101,3,none⟩ = some (.string a0_3) := (qw BK101.out 3).trans rfl;have hfz5_0 := qv BK101.out 0;have hfz5_1 := qv BK101.out 1;have hfz5_2 := qv BK101.out 2;have hfz5_3 := qv BK101.out 3))
   go_ret
   exact ⟨by first | rfl | (simp [*,jk,jj] <;> rfl),by repeat (first | (with_reducible first | exact HB.out | apply qj | apply qz | apply qk | refine qx ?_ GE101.out) | exact HB.out)⟩
  ·rw [if_neg c3] at H
   have c3b0 : (a0_1 == 1) = false := beq_eq_false_iff_ne.mpr c3
   have c3b1 : (a0_1 != 1) = true := bne_iff_ne.mpr c3
   obtain rfl := Option.some.inj H
   go_enter Tryz.func22,Tryz.ntmps22
   go_wp2_with (first | ((with_reducible refine gate_dst (N := 1) rfl ?_);refine box_event ?hg (N := 1) ?hd (cs := #[.int .i64 a0_0,.int .i64 a0_1,.string a0_2,.string a0_3]) (t := 28) ?hr ?_;(case hd => rfl);(case hg => rfl);(case hr => first | (go_simp;done) | (go_simp;rfl));intro gb101 hg w6 hbox hb;have n0_ := qq.mk (zv (by repeat (first | (with_reducible first | exact HB.out | apply qj | apply qz | apply qk) | exact HB.out)) hb);have n1_ := qq.mk (hbox);have n2_ := qq.mk ((by rw [hg];exact (zw (by repeat (first | (with_reducible first | exact HB.out | apply qj | apply qz | apply qk) | exact HB.out))) : w.heap.size ≤ gb101));have n3_ := qq.mk ((by rw [hg];exact (zw (by repeat (first | (with_reducible first | exact HB.out | apply qj | apply qz | apply qk) | exact HB.out))) : w.heap.size ≤ gb101));clear HB;have HB := n0_;have BK101 := n1_;have GW101 := n2_;have GE101 := n3_;clear n0_ n1_ n2_ n3_;clear hb hbox hg;have hcz7_0 : w6.cell? ⟨gb101,0,none⟩ = some (.int .i64 a0_0) := (qw BK101.out 0).trans rfl;have hcz7_1 : w6.cell? ⟨gb101,1,none⟩ = some (.int .i64 a0_1) := (qw BK101.out 1).trans rfl;have hcz7_2 : w6.cell? ⟨gb101,2,none⟩ = some (.string a0_2) := (qw BK101.out 2).trans rfl;have hcz7_3 : w6.cell? ⟨gb101,3,none⟩ = some (.string a0_3) := (qw BK101.out 3).trans rfl;have hfz7_0 := qv BK101.out 0;have hfz7_1 := qv BK101.out 1;have hfz7_2 := qv BK101.out 2;have hfz7_3 := qv BK101.out 3))
   go_ret
   exact ⟨by first | rfl | (simp [*,jk,jj] <;> rfl),by repeat (first | (with_reducible first | exact HB.out | apply qj | apply qz | apply qk | refine qx ?_ GE101.out) | exact HB.out)⟩
 ·rw [if_neg c2] at H
  have c2b0 : (a0_0 == 1) = false := beq_eq_false_iff_ne.mpr c2
  have c2b1 : (a0_0 != 1) = true := bne_iff_ne.mpr c2
  by_cases c8 : a0_0 = 2
  ·rw [if_pos c8] at H
   have c8b0 : (a0_0 == 2) = true := beq_iff_eq.mpr c8
   have c8b1 : (a0_0 != 2) = false := bne_eq_false_iff_eq.mpr c8
   clear c8
   replace H := Option.bind_eq_some_iff.mp H
   obtain ⟨t102,A90,H⟩ := H
   replace H : (some t102) = some r := H
   have A9 := qq.mk A90
   clear A90
   obtain rfl := Option.some.inj H
   go_enter Tryz.func22,Tryz.ntmps22
   go_wp2_with (first | ((with_reducible refine gate_dst (N := 1) rfl ?_);refine box_event ?hg (N := 1) ?hd (cs := #[.int .i64 a0_0,.int .i64 a0_1,.string a0_2,.string a0_3]) (t := 28) ?hr ?_;(case hd => rfl);(case hg => rfl);(case hr => first | (go_simp;done) | (go_simp;rfl));intro gb101 hg w10 hbox hb;have n0_ := qq.mk (zv (by repeat (first | (with_reducible first | exact HB.out | apply qj | apply qz | apply qk) | exact HB.out)) hb);have n1_ := qq.mk (hbox);have n2_ := qq.mk ((by rw [hg];exact (zw (by repeat (first | (with_reducible first | exact HB.out | apply qj | apply qz | apply qk) | exact HB.out))) : w.heap.size ≤ gb101));have n3_ := qq.mk ((by rw [hg];exact (zw (by repeat (first | (with_reducible first | exact HB.out | apply qj | apply qz | apply qk) | exact HB.out))) : w.heap.size ≤ gb101));clear HB;have HB := n0_;have BK101 := n1_;have GW101 := n2_;have GE101 := n3_;clear n0_ n1_ n2_ n3_;clear hb hbox hg;have hcz11_0 : w10.cell? ⟨gb101,0,none⟩ = some (.int .i64 a0_0) := (qw BK101.out 0).trans rfl;have hcz11_1 : w10.cell? ⟨gb101,1,none⟩ = some (.int .i64 a0_1) := (qw BK101.out 1).trans rfl;have hcz11_2 : w10.cell? ⟨gb101,2,none⟩ = some (.string a0_2) := (qw BK101.out 2).trans rfl;have hcz11_3 : w10.cell? ⟨gb101,3,none⟩ = some (.string a0_3) := (qw BK101.out 3).trans rfl;have hfz11_0 := qv BK101.out 0;have hfz11_1 := qv BK101.out 1;have hfz11_2 := qv BK101.out 2;have hfz11_3 := qv BK101.out 3) | ((with_reducible refine jv (f := 47) rfl ?_);refine goesL_ (some 17) rfl rfl Tryz.func47 (by kernel_rfl) rfl #[.int .i64 a0_1] rfl (by (try simp only [List.map_toArray,List.map_cons,List.map_nil]);first | done | rfl | (simp only [List.length_drop,List.length_take];rfl)) ?_;(with_reducible refine (qkv.calls k a0_1 t102 _ A9.out).mono ?_);rintro e w12 ⟨rfl,hb⟩;refine ⟨_,rfl,?_⟩;have n0_ := qq.mk (kw (g := gb101) (o := .cells #[.int .i64 a0_0,.int .i64 a0_1,.string a0_2,.string a0_3] 28 (0,0)) (by (with_reducible repeat (first | refine zz ?_ _ | refine zj ?_ | refine zq ?_ _));exact BK101.out) hb);have n1_ := qq.mk (zv (by repeat (first | (with_reducible first | exact HB.out | apply qj | apply qz | apply qk | refine qx ?_ GE101.out) | exact HB.out)) hb);clear BK101;clear HB;have BK101 := n0_;have HB := n1_;clear n0_ n1_;(try clear hb);(try clear hb2);(try clear hk);(try clear hi)))
   go_ret
   exact ⟨by first | rfl | (simp [*,jk,jj] <;> rfl),by repeat (first | (with_reducible first | exact HB.out | apply qj | apply qz | apply qk | refine qx ?_ GE101.out) | exact HB.out)⟩
  ·rw [if_neg c8] at H
   have c8b0 : (a0_0 == 2) = false := beq_eq_false_iff_ne.mpr c8
   have c8b1 : (a0_0 != 2) = true := bne_iff_ne.mpr c8
   by_cases c13 : a0_0 = 3
   ·rw [if_pos c13] at H
    have c13b0 : (a0_0 == 3) = true := beq_iff_eq.mpr c13
    have c13b1 : (a0_0 != 3) = false := bne_eq_false_iff_eq.mpr c13
    clear c13
    replace H := Option.bind_eq_some_iff.mp H
    obtain ⟨t103,A140,H⟩ := H
    replace H : (some t103) = some r := H
    have A14 := qq.mk A140
    clear A140
    obtain rfl := Option.some.inj H
    go_enter Tryz.func22,Tryz.ntmps22
    go_wp2_with (first | ((with_reducible refine gate_dst (N := 1) rfl ?_);refine box_event ?hg (N := 1) ?hd (cs := #[.int .i64 a0_0,.int .i64 a0_1,.string a0_2,.string a0_3]) (t := 28) ?hr ?_;(case hd => rfl);(case hg => rfl);(case hr => first | (go_simp;done) | (go_simp;rfl));intro gb101 hg w15 hbox hb;have n0_ := qq.mk (zv (by repeat (first | (with_reducible first | exact HB.out | apply qj | apply qz | apply qk) | exact HB.out)) hb);have n1_ := qq.mk (hbox);have n2_ := qq.mk ((by rw [hg];exact (zw (by repeat (first | (with_reducible first | exact HB.out | apply qj | apply qz | apply qk) | exact HB.out))) : w.heap.size ≤ gb101));have n3_ := qq.mk ((by rw [hg];exact (zw (by repeat (first | (with_reducible first | exact HB.out | apply qj | apply qz | apply qk) | exact HB.out))) : w.heap.size ≤ gb101));clear HB;have HB := n0_;have BK101 := n1_;have GW101 := n2_;have GE101 := n3_;clear n0_ n1_ n2_ n3_;clear hb hbox hg;have hcz16_0 : w15.cell? ⟨gb101,0,none⟩ = some (.int .i64 a0_0) := (qw BK101.out 0).trans rfl;have hcz16_1 : w15.cell? ⟨gb101,1,none⟩ = some (.int .i64 a0_1) := (qw BK101.out 1).trans rfl;have hcz16_2 : w15.cell? ⟨gb101,2,none⟩ = some (.string a0_2) := (qw BK101.out 2).trans rfl;have hcz16_3 : w15.cell? ⟨gb101,3,none⟩ = some (.string a0_3) := (qw BK101.out 3).trans rfl;have hfz16_0 := qv BK101.out 0;have hfz16_1 := qv BK101.out 1;have hfz16_2 := qv BK101.out 2;have hfz16_3 := qv BK101.out 3) | ((with_reducible refine jv (f := 48) rfl ?_);refine goesL_ (some 22) rfl rfl Tryz.func48 (by kernel_rfl) rfl #[.string a0_2] rfl (by (try simp only [List.map_toArray,List.map_cons,List.map_nil]);first | done | rfl | (simp only [List.length_drop,List.length_take];rfl)) ?_;(with_reducible refine (qvq.calls k a0_2 t103 _ A14.out).mono ?_);rintro e w17 ⟨rfl,hb⟩;refine ⟨_,rfl,?_⟩;have n0_ := qq.mk (kw (g := gb101) (o := .cells #[.int .i64 a0_0,.int .i64 a0_1,.string a0_2,.string a0_3] 28 (0,0)) (by (with_reducible repeat (first | refine zz ?_ _ | refine zj ?_ | refine zq ?_ _));exact BK101.out) hb);have n1_ := qq.mk (zv (by repeat (first | (with_reducible first | exact HB.out | apply qj | apply qz | apply qk | refine qx ?_ GE101.out) | exact HB.out)) hb);clear BK101;clear HB;have BK101 := n0_;have HB := n1_;clear n0_ n1_;(try clear hb);(try clear hb2);(try clear hk);(try clear hi)))
    go_ret
    exact ⟨by first | rfl | (simp [*,jk,jj] <;> rfl),by repeat (first | (with_reducible first | exact HB.out | apply qj | apply qz | apply qk | refine qx ?_ GE101.out) | exact HB.out)⟩
   ·rw [if_neg c13] at H
    have c13b0 : (a0_0 == 3) = false := beq_eq_false_iff_ne.mpr c13
    have c13b1 : (a0_0 != 3) = true := bne_iff_ne.mpr c13
    by_cases c18 : a0_0 = 4
    ·rw [if_pos c18] at H
     have c18b0 : (a0_0 == 4) = true := beq_iff_eq.mpr c18
     have c18b1 : (a0_0 != 4) = false := bne_eq_false_iff_eq.mpr c18
     clear c18
     by_cases c19 : a0_3.size + 2 ≤ 9223372036854775807
     ·rw [if_pos c19] at H
      have c19b0 := eq_true c19
      have c19b1 : decide (a0_3.size + 2 ≤ 9223372036854775807) = true := decide_eq_true c19
      try have c19b2 : (9223372036854775807 < a0_3.size + 2) = False := eq_false (Nat.not_lt.2 c19)
      replace H := Option.bind_eq_some_iff.mp H
      obtain ⟨t104,A200,H⟩ := H
      replace H : (if (a0_3 ++ (⟨#[58,58]⟩ : ByteArray)).size + t104.size ≤ 9223372036854775807 then (some ((a0_3 ++ (⟨#[58,58]⟩ : ByteArray)) ++ t104)) else (none)) = some r := H
      have A20 := qq.mk A200
      clear A200
      by_cases c21 : (a0_3 ++ (⟨#[58,58]⟩ : ByteArray)).size + t104.size ≤ 9223372036854775807
      ·rw [if_pos c21] at H
       have c21b0 := eq_true c21
       have c21b1 : decide ((a0_3 ++ (⟨#[58,58]⟩ : ByteArray)).size + t104.size ≤ 9223372036854775807) = true := decide_eq_true c21
       try have c21b2 : (9223372036854775807 < (a0_3 ++ (⟨#[58,58]⟩ : ByteArray)).size + t104.size) = False := eq_false (Nat.not_lt.2 c21)
       try (have c21b9 := c21b2;simp only [ByteArray.size_append,show (⟨#[58,58]⟩ : ByteArray).size = 2 from rfl] at c21b9)
       obtain rfl := Option.some.inj H
       go_enter Tryz.func22,Tryz.ntmps22
       try go_wp2_with (first | ((with_reducible refine gate_dst (N := 1) rfl ?_);refine box_event ?hg (N := 1) ?hd (cs := #[.int .i64 a0_0,.int .i64 a0_1,.string a0_2,.string a0_3]) (t := 28) ?hr ?_;(case hd => rfl);(case hg => rfl);(case hr => first | (go_simp;done) | (go_simp;rfl));intro gb101 hg w22 hbox hb;have n0_ := qq.mk (zv (by repeat (first | (with_reducible first | exact HB.out | apply qj | apply qz | apply qk) | exact HB.out)) hb);have n1_ := qq.mk (hbox);have n2_ := qq.mk ((by rw [hg];exact (zw (by repeat (first | (with_reducible first | exact HB.out | apply qj | apply qz | apply qk) | exact HB.out))) : w.heap.size ≤ gb101));have n3_ := qq.mk ((by rw [hg];exact (zw (by repeat (first | (with_reducible first | exact HB.out | apply qj | apply qz | apply qk) | exact HB.out))) : w.heap.size ≤ gb101));clear HB;have HB := n0_;have BK101 := n1_;have GW101 := n2_;have GE101 := n3_;clear n0_ n1_ n2_ n3_;clear hb hbox hg;have hcz23_0 : w22.cell? ⟨gb101,0,none⟩ = some (.int .i64 a0_0) := (qw BK101.out 0).trans rfl;have hcz23_1 : w22.cell? ⟨gb101,1,none⟩ = some (.int .i64 a0_1) := (qw BK101.out 1).trans rfl;have hcz23_2 : w22.cell? ⟨gb101,2,none⟩ = some (.string a0_2) := (qw BK101.out 2).trans rfl;have hcz23_3 : w22.cell? ⟨gb101,3,none⟩ = some (.string a0_3) := (qw BK101.out 3).trans rfl;have hfz23_0 := qv BK101.out 0;have hfz23_1 := qv BK101.out 1;have hfz23_2 := qv BK101.out 2;have hfz23_3 := qv BK101.out 3))
       have n0_ := qq.mk (zj BK101.out)
       have n1_ := qq.mk (qk HB.out)
       clear BK101
       clear HB
       have BK101 := n0_
       have HB := n1_
       clear n0_ n1_
       refine start_ (n := 8) (S := fun w' => w'.cell? ⟨gb101,0,none⟩ = some (.int .i64 a0_0) ∧ w'.cell? ⟨gb101,1,none⟩ = some (.int .i64 a0_1) ∧ w'.cell? ⟨gb101,2,none⟩ = some (.string a0_2) ∧ w'.cell? ⟨gb101,3,none⟩ = some (.string a0_3)) (ds := []) #[false,false,false,false,false,false,false,false] (by kernel_rfl) rfl rfl ⟨(qw BK101.out 0).trans rfl,(qw BK101.out 1).trans rfl,(qw BK101.out 2).trans rfl,(qw BK101.out 3).trans rfl⟩ (fun hHeld => ?_);refine with_tabW qvj.tab11 qvj.bits11 (fun HT_ HW_ => ?_)
       generalize w22.drew = w24 at BK101 HB hHeld ⊢
       refine pure_ (i := 0) (N := some 25) (v := ?_) (a' := ?_) #[true,false,false,false,false,false,false,false] rfl rfl (any_of HT_.out (by kernel_rfl)) (fun _ _ _ h => h) (Or.inl ⟨by rfl,?_⟩) ?_ ?_
       rotate_left
       ·intro w'
        go_simp
        with_reducible rfl
       rotate_left
       ·simp only [Act.put,List.setIfInBounds_toArray,List.set_cons_zero,List.set_cons_succ,i64_w,i32_w]
        rfl
       refine pure_ (i := 3) (N := some 28) (v := ?_) (a' := ?_) #[true,false,false,true,false,false,false,false] rfl rfl (any_of HT_.out (by kernel_rfl)) (fun _ _ _ h => h) (Or.inl ⟨by rfl,?_⟩) ?_ ?_
       rotate_left
       ·intro w'
        go_simp
        with_reducible rfl
       rotate_left
       ·simp only [Act.put,List.setIfInBounds_toArray,List.set_cons_zero,List.set_cons_succ,i64_w,i32_w]
        rfl
       refine take_ (i := 1) (N := some 26) (v := ?_) (a' := ?_) #[true,true,false,true,false,false,false,false] rfl rfl (take_ofW HT_.out HW_.out (by kernel_rfl)) (fun _ _ _ h => h) (Or.inl ⟨by rfl,?_⟩) hHeld ?_ ?_
       rotate_left
       ·rintro w' ⟨s0,s1,s2,s3⟩
        go_simp
        with_reducible rfl
       rotate_left
       ·simp only [Act.put,List.setIfInBounds_toArray,List.set_cons_zero,List.set_cons_succ,i64_w,i32_w]
        rfl
       refine pure_ (i := 2) (N := some 27) (v := ?_) (a' := ?_) #[true,true,true,true,false,false,false,false] rfl rfl (any_of HT_.out (by kernel_rfl)) (fun _ _ _ h => h) (Or.inl ⟨by rfl,?_⟩) ?_ ?_
       rotate_left
       ·intro w'
        go_simp
        with_reducible rfl
       rotate_left
       ·simp only [Act.put,List.setIfInBounds_toArray,List.set_cons_zero,List.set_cons_succ,i64_w,i32_w]
        rfl
       refine take_ (i := 4) (N := some 29) (v := ?_) (a' := ?_) #[true,true,true,true,true,false,false,false] rfl rfl (take_ofW HT_.out HW_.out (by kernel_rfl)) (fun _ _ _ h => h) (Or.inl ⟨by rfl,?_⟩) hHeld ?_ ?_
       rotate_left
       ·rintro w' ⟨s0,s1,s2,s3⟩
        go_simp
        with_reducible rfl
       rotate_left
       ·simp only [Act.put,List.setIfInBounds_toArray,List.set_cons_zero,List.set_cons_succ,i64_w,i32_w]
        rfl
       refine one_ (i := 5) (N := some 30) #[true,true,true,true,true,true,false,false] rfl rfl (one_of HT_.out (by kernel_rfl)) (by decide) (fun K hK => ?_)
       refine goes_ Tryz.func48 (by kernel_rfl) rfl #[.string a0_2] (by rfl) rfl rfl (by (try simp only [List.map_toArray,List.map_cons,List.map_nil]);first | done | rfl | (simp only [List.length_drop,List.length_take];rfl)) ?_
       with_reducible refine (qvq.calls k a0_2 t104 _ A20.out).mono ?_
       rintro e w25 ⟨rfl,hb⟩
       refine ⟨_,rfl,?_⟩
       have n0_ := qq.mk (kw (g := gb101) (o := .cells #[.int .i64 a0_0,.int .i64 a0_1,.string a0_2,.string a0_3] 28 (0,0)) (by (with_reducible repeat (first | refine zz ?_ _ | refine zj ?_ | refine zq ?_ _));exact BK101.out) hb)
       have n1_ := qq.mk (zv (by repeat (first | (with_reducible first | exact HB.out | apply qj | apply qz | apply qk | refine qx ?_ GE101.out) | exact HB.out)) hb)
       clear BK101
       clear HB
       have BK101 := n0_
       have HB := n1_
       clear n0_ n1_
       (try clear hb)
       (try clear hb2)
       (try clear hk)
       (try clear hi)
       refine hK.out _ _ ⟨(qw BK101.out 0).trans rfl,(qw BK101.out 1).trans rfl,(qw BK101.out 2).trans rfl,(qw BK101.out 3).trans rfl⟩ (fun hHeld => ?_)
       clear hK K
       refine norm_ (a' := ?_) ?_ ?_
       rotate_left
       ·show Act.put _ (some 30) _ = _
        simp only [Act.put,List.setIfInBounds_toArray,List.set_cons_zero,List.set_cons_succ,i64_w,i32_w]
        rfl
       refine pure_ (i := 6) (N := some 31) (v := ?_) (a' := ?_) #[true,true,true,true,true,true,true,false] rfl rfl (any_of HT_.out (by kernel_rfl)) (fun _ _ _ h => h) (Or.inl ⟨by rfl,?_⟩) ?_ ?_
       rotate_left
       ·intro w'
        go_simp
        with_reducible rfl
       rotate_left
       ·simp only [Act.put,List.setIfInBounds_toArray,List.set_cons_zero,List.set_cons_succ,i64_w,i32_w]
        rfl
       refine pure_ (i := 7) (N := some 2) (v := ?_) (a' := ?_) #[true,true,true,true,true,true,true,true] rfl rfl (any_of HT_.out (by kernel_rfl)) (fun _ _ _ h => h) (Or.inl ⟨by rfl,?_⟩) ?_ ?_
       rotate_left
       ·intro w'
        go_simp
        with_reducible rfl
       rotate_left
       ·simp only [Act.put,List.setIfInBounds_toArray,List.set_cons_zero,List.set_cons_succ,i64_w,i32_w]
        rfl
       refine done_ (done_of HT_.out (by kernel_rfl)) ?_
       try go_wp2
       go_ret
       exact ⟨by first | rfl | (simp [*,jk,jj] <;> rfl),by repeat (first | (with_reducible first | exact HB.out | apply qj | apply qz | apply qk | refine qx ?_ GE101.out) | exact HB.out)⟩
      ·rw [if_neg c21] at H
       exact absurd H (by simp)
     ·rw [if_neg c19] at H
      exact absurd H (by simp)
    ·rw [if_neg c18] at H
     have c18b0 : (a0_0 == 4) = false := beq_eq_false_iff_ne.mpr c18
     have c18b1 : (a0_0 != 4) = true := bne_iff_ne.mpr c18
     by_cases c26 : a0_0 = 5
     ·rw [if_pos c26] at H
      have c26b0 : (a0_0 == 5) = true := beq_iff_eq.mpr c26
      have c26b1 : (a0_0 != 5) = false := bne_eq_false_iff_eq.mpr c26
      clear c26
      replace H := Option.bind_eq_some_iff.mp H
      obtain ⟨t105,A270,H⟩ := H
      replace H : (qvj.l0 k t105 a0_0 a0_1 a0_2 a0_3) = some r := H
      have A27 := qq.mk A270
      clear A270
      have H' := qq.mk H
      clear H
      go_enter Tryz.func22,Tryz.ntmps22
      go_wp2_with (first | ((with_reducible refine gate_dst (N := 1) rfl ?_);refine box_event ?hg (N := 1) ?hd (cs := #[.int .i64 a0_0,.int .i64 a0_1,.string a0_2,.string a0_3]) (t := 28) ?hr ?_;(case hd => rfl);(case hg => rfl);(case hr => first | (go_simp;done) | (go_simp;rfl));intro gb101 hg w28 hbox hb;have n0_ := qq.mk (zv (by repeat (first | (with_reducible first | exact HB.out | apply qj | apply qz | apply qk) | exact HB.out)) hb);have n1_ := qq.mk (hbox);have n2_ := qq.mk ((by rw [hg];exact (zw (by repeat (first | (with_reducible first | exact HB.out | apply qj | apply qz | apply qk) | exact HB.out))) : w.heap.size ≤ gb101));have n3_ := qq.mk ((by rw [hg];exact (zw (by repeat (first | (with_reducible first | exact HB.out | apply qj | apply qz | apply qk) | exact HB.out))) : w.heap.size ≤ gb101));clear HB;have HB := n0_;have BK101 := n1_;have GW101 := n2_;have GE101 := n3_;clear n0_ n1_ n2_ n3_;clear hb hbox hg;have hcz29_0 : w28.cell? ⟨gb101,0,none⟩ = some (.int .i64 a0_0) := (qw BK101.out 0).trans rfl;have hcz29_1 : w28.cell? ⟨gb101,1,none⟩ = some (.int .i64 a0_1) := (qw BK101.out 1).trans rfl;have hcz29_2 : w28.cell? ⟨gb101,2,none⟩ = some (.string a0_2) := (qw BK101.out 2).trans rfl;have hcz29_3 : w28.cell? ⟨gb101,3,none⟩ = some (.string a0_3) := (qw BK101.out 3).trans rfl;have hfz29_0 := qv BK101.out 0;have hfz29_1 := qv BK101.out 1;have hfz29_2 := qv BK101.out 2;have hfz29_3 := qv BK101.out 3) | ((with_reducible refine jv (f := 49) rfl ?_);refine goesL_ (some 36) rfl rfl Tryz.func49 (by kernel_rfl) rfl #[.int .i64 a0_1] rfl (by (try simp only [List.map_toArray,List.map_cons,List.map_nil]);first | done | rfl | (simp only [List.length_drop,List.length_take];rfl)) ?_;(with_reducible refine (qvz.calls k a0_1 t105 _ A27.out).mono ?_);rintro e w30 ⟨rfl,hb⟩;refine ⟨_,rfl,?_⟩;have n0_ := qq.mk (kw (g := gb101) (o := .cells #[.int .i64 a0_0,.int .i64 a0_1,.string a0_2,.string a0_3] 28 (0,0)) (by (with_reducible repeat (first | refine zz ?_ _ | refine zj ?_ | refine zq ?_ _));exact BK101.out) hb);have n1_ := qq.mk (zv (by repeat (first | (with_reducible first | exact HB.out | apply qj | apply qz | apply qk | refine qx ?_ GE101.out) | exact HB.out)) hb);clear BK101;clear HB;have BK101 := n0_;have HB := n1_;clear n0_ n1_;(try clear hb);(try clear hb2);(try clear hk);(try clear hi)))
      go_loopg [3] k (fun kq v3 w' => ∃ (x3_1 : ByteArray),v3 = .string x3_1 ∧ qq (qvj.l0 kq x3_1 a0_0 a0_1 a0_2 a0_3 = some r) ∧ qq (kq ≤ k) ∧ qq (w'.heap[gb101]? = some (.cells #[.int .i64 a0_0,.int .i64 a0_1,.string a0_2,.string a0_3] 28 (0,0))) ∧ qq (Below w.heap.size w w'))
      case atStart => exact ⟨(t105),(by first | rfl | (simp;done) | (simp [*];done)),H',⟨Nat.le_refl _⟩,⟨by (with_reducible repeat (first | refine zz ?_ _ | refine zj ?_ | refine zq ?_ _));exact BK101.out⟩,⟨by repeat (first | (with_reducible first | exact HB.out | apply qj | apply qz | apply qk | refine qx ?_ GE101.out) | exact HB.out)⟩⟩
      case round =>
       clear H'
       try clear c1
       try clear c2
       try clear c2b0
       try clear c2b1
       try clear p2
       try clear c3
       try clear c3b0
       try clear c3b1
       try clear c4
       try clear p6
       try clear c8
       try clear c8b0
       try clear c8b1
       try clear c13
       try clear c13b0
       try clear c13b1
       try clear c18
       try clear c18b0
       try clear c18b1
       try clear c19
       try clear c19b0
       try clear c19b1
       try clear c19b2
       try clear c21
       try clear c21b0
       try clear c21b1
       try clear c21b2
       try clear c22
       try clear c26
       try clear c26b0
       try clear c26b1
       try clear hcz11_0
       try clear hcz11_1
       try clear hcz11_2
       try clear hcz11_3
       try clear hcz16_0
       try clear hcz16_1
       try clear hcz16_2
       try clear hcz16_3
       try clear hcz23_0
       try clear hcz23_1
       try clear hcz23_2
       try clear hcz23_3
       try clear hcz29_0
       try clear hcz29_1
       try clear hcz29_2
       try clear hcz29_3
       try clear hcz5_0
       try clear hcz5_1
       try clear hcz5_2
       try clear hcz5_3
       try clear hcz7_0
       try clear hcz7_1
       try clear hcz7_2
       try clear hcz7_3
       try clear hfz11_0
       try clear hfz11_1
       try clear hfz11_2
       try clear hfz11_3
       try clear hfz16_0
       try clear hfz16_1
       try clear hfz16_2
       try clear hfz16_3
       try clear hfz23_0
       try clear hfz23_1
       try clear hfz23_2
       try clear hfz23_3
       try clear hfz29_0
       try clear hfz29_1
       try clear hfz29_2
       try clear hfz29_3
       try clear hfz5_0
       try clear hfz5_1
       try clear hfz5_2
       try clear hfz5_3
       try clear hfz7_0
       try clear hfz7_1
       try clear hfz7_2
       try clear hfz7_3
       obtain ⟨x3_1,rfl,HA,HK1,BK101,HB⟩ := hrel
       cases gk with
       | zero => exact absurd HA.out (by simp [qvj.l0])
       | succ k1 =>
        have H := HA.out
        clear HA
        simp only [qvj.l0] at H
        by_cases c31 : (x3_1.size : Int) < 5
        ·rw [if_pos c31] at H
         have c31b0 : decide ((x3_1.size : Int) < 5) = true := decide_eq_true c31
         have c31b1 : decide (x3_1.size < 5) = true := decide_eq_true (by omega)
         clear c31
         by_cases c32 : 1 + x3_1.size ≤ 9223372036854775807
         ·rw [if_pos c32] at H
          have c32b0 := eq_true c32
          have c32b1 : decide (1 + x3_1.size ≤ 9223372036854775807) = true := decide_eq_true c32
          try have c32b2 : (9223372036854775807 < 1 + x3_1.size) = False := eq_false (Nat.not_lt.2 c32)
          have H' := qq.mk H
          clear H
          go_wp2
          go_roundg k1
          case measure => have := HK1.out;omega
          case rel => exact ⟨((⟨#[48]⟩ : ByteArray) ++ x3_1),(by first | rfl | (simp;done) | (simp [*];done)),H',⟨by have := HK1.out;omega⟩,⟨by (with_reducible repeat (first | refine zz ?_ _ | refine zj ?_ | refine zq ?_ _));exact BK101.out⟩,⟨by repeat (first | (with_reducible first | exact HB.out | apply qj | apply qz | apply qk | refine qx ?_ GE101.out) | exact HB.out)⟩⟩
         ·rw [if_neg c32] at H
          exact absurd H (by simp)
        ·rw [if_neg c31] at H
         have c31b0 : decide ((x3_1.size : Int) < 5) = false := decide_eq_false c31
         have c31b1 : decide (x3_1.size < 5) = false := decide_eq_false (by omega)
         clear c31
         obtain ⟨ji33,hji33⟩ : ∃ j_ : Int,(wrap64 ((x3_1.size : Int) - 4)) = j_ := ⟨_,rfl⟩
         replace H : (if 0 ≤ (ji33) then (if (ji33) ≤ (x3_1.size : Int) then (if (x3_1.extract 0 ((ji33) : Int).toNat).size + 1 ≤ 9223372036854775807 then (if ((x3_1.extract 0 ((ji33) : Int).toNat) ++ (⟨#[46]⟩ : ByteArray)).size + (x3_1.extract ((ji33) : Int).toNat x3_1.size).size ≤ 9223372036854775807 then (if a0_1 < 0 then (if 1 + (((x3_1.extract 0 ((ji33) : Int).toNat) ++ (⟨#[46]⟩ : ByteArray)) ++ (x3_1.extract ((ji33) : Int).toNat x3_1.size)).size ≤ 9223372036854775807 then (some ((⟨#[45]⟩ : ByteArray) ++ (((x3_1.extract 0 ((ji33) : Int).toNat) ++ (⟨#[46]⟩ : ByteArray)) ++ (x3_1.extract ((ji33) : Int).toNat x3_1.size)))) else (none)) else (some (((x3_1.extract 0 ((ji33) : Int).toNat) ++ (⟨#[46]⟩ : ByteArray)) ++ (x3_1.extract ((ji33) : Int).toNat x3_1.size)))) else (none)) else (none)) else (none)) else (none)) = some r := by first | (rw [hji33] at H;exact H) | (simp only [hji33] at H ⊢;exact H)
         have hji33w : (IntKind.i64.wrap ((x3_1.size : Int) - 4)) = ji33 := (i64_w _).trans hji33
         by_cases c34 : 0 ≤ (ji33)
         ·rw [if_pos c34] at H
          have c34b0 := eq_true c34
          have c34b1 : decide (0 ≤ (ji33)) = true := decide_eq_true c34
          clear c34
          by_cases c35 : (ji33) ≤ (x3_1.size : Int)
          ·rw [if_pos c35] at H
           have c35b0 := eq_true c35
           have c35b1 : decide ((ji33) ≤ (x3_1.size : Int)) = true := decide_eq_true c35
           clear c35
           by_cases c36 : (x3_1.extract 0 ((ji33) : Int).toNat).size + 1 ≤ 9223372036854775807
           ·rw [if_pos c36] at H
            have c36b0 := eq_true c36
            have c36b1 : decide ((x3_1.extract 0 ((ji33) : Int).toNat).size + 1 ≤ 9223372036854775807) = true := decide_eq_true c36
            try have c36b2 : (9223372036854775807 < (x3_1.extract 0 ((ji33) : Int).toNat).size + 1) = False := eq_false (Nat.not_lt.2 c36)
            have c36b5 : (9223372036854775807 < ji33.toNat + 1) = False := eq_false (by
             have e_ := c36
             have e1_ : (ji33 : Int).toNat ≤ x3_1.size := by
              have e2_ := of_eq_true c35b0
              clear hji33 hji33w
              omega
             simp only [ByteArray.size_append,ByteArray.size_extract,Nat.min_eq_left e1_,Nat.sub_zero,Nat.min_self,show (⟨#[46]⟩ : ByteArray).size = 1 from rfl,show (⟨#[47]⟩ : ByteArray).size = 1 from rfl] at e_
             exact Nat.not_lt.2 e_)
            have c37b0 := eq_true (of_decide_eq_true (by assumption) : 0 ≤ (ji33))
            have c38b0 := eq_true (of_decide_eq_true (by assumption) : (ji33) ≤ (x3_1.size : Int))
            by_cases c39 : ((x3_1.extract 0 ((ji33) : Int).toNat) ++ (⟨#[46]⟩ : ByteArray)).size + (x3_1.extract ((ji33) : Int).toNat x3_1.size).size ≤ 9223372036854775807
            ·rw [if_pos c39] at H
             have c39b0 := eq_true c39
             have c39b1 : decide (((x3_1.extract 0 ((ji33) : Int).toNat) ++ (⟨#[46]⟩ : ByteArray)).size + (x3_1.extract ((ji33) : Int).toNat x3_1.size).size ≤ 9223372036854775807) = true := decide_eq_true c39
             try have c39b2 : (9223372036854775807 < ((x3_1.extract 0 ((ji33) : Int).toNat) ++ (⟨#[46]⟩ : ByteArray)).size + (x3_1.extract ((ji33) : Int).toNat x3_1.size).size) = False := eq_false (Nat.not_lt.2 c39)
             have c39b5 : (9223372036854775807 < ji33.toNat + 1 + (x3_1.size - ji33.toNat)) = False := eq_false (by
              have e_ := c39
              have e1_ : (ji33 : Int).toNat ≤ x3_1.size := by
               have e2_ := of_eq_true c35b0
               clear hji33 hji33w
               omega
              simp only [ByteArray.size_append,ByteArray.size_extract,Nat.min_eq_left e1_,Nat.sub_zero,Nat.min_self,show (⟨#[46]⟩ : ByteArray).size = 1 from rfl,show (⟨#[47]⟩ : ByteArray).size = 1 from rfl] at e_
              exact Nat.not_lt.2 e_)
             try (have c39b9 := c39b2;simp only [ByteArray.size_append,show (⟨#[46]⟩ : ByteArray).size = 1 from rfl] at c39b9)
             by_cases c40 : a0_1 < 0
             ·rw [if_pos c40] at H
              have c40b0 : decide (a0_1 < 0) = true := decide_eq_true c40
              clear c40
              by_cases c41 : 1 + (((x3_1.extract 0 ((ji33) : Int).toNat) ++ (⟨#[46]⟩ : ByteArray)) ++ (x3_1.extract ((ji33) : Int).toNat x3_1.size)).size ≤ 9223372036854775807
              ·rw [if_pos c41] at H
               have c41b0 := eq_true c41
               have c41b1 : decide (1 + (((x3_1.extract 0 ((ji33) : Int).toNat) ++ (⟨#[46]⟩ : ByteArray)) ++ (x3_1.extract ((ji33) : Int).toNat x3_1.size)).size ≤ 9223372036854775807) = true := decide_eq_true c41
               try have c41b2 : (9223372036854775807 < 1 + (((x3_1.extract 0 ((ji33) : Int).toNat) ++ (⟨#[46]⟩ : ByteArray)) ++ (x3_1.extract ((ji33) : Int).toNat x3_1.size)).size) = False := eq_false (Nat.not_lt.2 c41)
               have c41b5 : (9223372036854775807 < 1 + (ji33.toNat + 1 + (x3_1.size - ji33.toNat))) = False := eq_false (by
                have e_ := c41
                have e1_ : (ji33 : Int).toNat ≤ x3_1.size := by
                 have e2_ := of_eq_true c35b0
                 clear hji33 hji33w
                 omega
                simp only [ByteArray.size_append,ByteArray.size_extract,Nat.min_eq_left e1_,Nat.sub_zero,Nat.min_self,show (⟨#[46]⟩ : ByteArray).size = 1 from rfl,show (⟨#[47]⟩ : ByteArray).size = 1 from rfl] at e_
                exact Nat.not_lt.2 e_)
               try (have c41b9 := c41b2;simp only [ByteArray.size_append,show (⟨#[46]⟩ : ByteArray).size = 1 from rfl] at c41b9)
               obtain rfl := Option.some.inj H
               try go_wp2
               go_quiet (fail)
               have n0_ := qq.mk (zz BK101.out nq)
               have n1_ := qq.mk (qz HB.out nq)
               clear BK101
               clear HB
               have BK101 := n0_
               have HB := n1_
               clear n0_ n1_
               generalize World.drewN wr nq = w42 at BK101 HB ⊢
               have hcz43_0 : w42.cell? ⟨gb101,0,none⟩ = some (.int .i64 a0_0) := (qw BK101.out 0).trans rfl
               have hcz43_1 : w42.cell? ⟨gb101,1,none⟩ = some (.int .i64 a0_1) := (qw BK101.out 1).trans rfl
               have hcz43_2 : w42.cell? ⟨gb101,2,none⟩ = some (.string a0_2) := (qw BK101.out 2).trans rfl
               have hcz43_3 : w42.cell? ⟨gb101,3,none⟩ = some (.string a0_3) := (qw BK101.out 3).trans rfl
               have hfz43_0 := qv BK101.out 0
               have hfz43_1 := qv BK101.out 1
               have hfz43_2 := qv BK101.out 2
               have hfz43_3 := qv BK101.out 3
               try go_wp2
               go_ret
               exact ⟨by first | rfl | (simp [jk,jj] <;> rfl) | (simp only [← hji33];first | rfl | (simp [jk,jj] <;> rfl)) | (simp [*,jk,jj] <;> rfl),by repeat (first | (with_reducible first | exact HB.out | apply qj | apply qz | apply qk | refine qx ?_ GE101.out) | exact HB.out)⟩
              ·rw [if_neg c41] at H
               exact absurd H (by simp)
             ·rw [if_neg c40] at H
              have c40b0 : decide (a0_1 < 0) = false := decide_eq_false c40
              clear c40
              obtain rfl := Option.some.inj H
              try go_wp2
              go_quiet (fail)
              have n0_ := qq.mk (zz BK101.out nq)
              have n1_ := qq.mk (qz HB.out nq)
              clear BK101
              clear HB
              have BK101 := n0_
              have HB := n1_
              clear n0_ n1_
              generalize World.drewN wr nq = w44 at BK101 HB ⊢
              have hcz45_0 : w44.cell? ⟨gb101,0,none⟩ = some (.int .i64 a0_0) := (qw BK101.out 0).trans rfl
              have hcz45_1 : w44.cell? ⟨gb101,1,none⟩ = some (.int .i64 a0_1) := (qw BK101.out 1).trans rfl
              have hcz45_2 : w44.cell? ⟨gb101,2,none⟩ = some (.string a0_2) := (qw BK101.out 2).trans rfl
              have hcz45_3 : w44.cell? ⟨gb101,3,none⟩ = some (.string a0_3) := (qw BK101.out 3).trans rfl
              have hfz45_0 := qv BK101.out 0
              have hfz45_1 := qv BK101.out 1
              have hfz45_2 := qv BK101.out 2
              have hfz45_3 := qv BK101.out 3
              try go_wp2
              go_ret
              exact ⟨by first | rfl | (simp [jk,jj] <;> rfl) | (simp only [← hji33];first | rfl | (simp [jk,jj] <;> rfl)) | (simp [*,jk,jj] <;> rfl),by repeat (first | (with_reducible first | exact HB.out | apply qj | apply qz | apply qk | refine qx ?_ GE101.out) | exact HB.out)⟩
            ·rw [if_neg c39] at H
             exact absurd H (by simp)
           ·rw [if_neg c36] at H
            exact absurd H (by simp)
          ·rw [if_neg c35] at H
           exact absurd H (by simp)
         ·rw [if_neg c34] at H
          exact absurd H (by simp)
     ·rw [if_neg c26] at H
      have c26b0 : (a0_0 == 5) = false := beq_eq_false_iff_ne.mpr c26
      have c26b1 : (a0_0 != 5) = true := bne_iff_ne.mpr c26
      by_cases c46 : a0_0 = 6
      ·rw [if_pos c46] at H
       have c46b0 : (a0_0 == 6) = true := beq_iff_eq.mpr c46
       have c46b1 : (a0_0 != 6) = false := bne_eq_false_iff_eq.mpr c46
       clear c46
       replace H := Option.bind_eq_some_iff.mp H
       obtain ⟨⟨t106,t107⟩,A470,H⟩ := H
       replace H : ((qkv.f k (wrap64 (Int.tdiv t106 16777216))).bind fun t108 => (if t108.size + 1 ≤ 9223372036854775807 then ((qkv.f k (Int.tmod (wrap64 (Int.tdiv t106 65536)) 256)).bind fun t109 => (if (t108 ++ (⟨#[46]⟩ : ByteArray)).size + t109.size ≤ 9223372036854775807 then (if ((t108 ++ (⟨#[46]⟩ : ByteArray)) ++ t109).size + 1 ≤ 9223372036854775807 then ((qkv.f k (Int.tmod (wrap64 (Int.tdiv t106 256)) 256)).bind fun t110 => (if (((t108 ++ (⟨#[46]⟩ : ByteArray)) ++ t109) ++ (⟨#[46]⟩ : ByteArray)).size + t110.size ≤ 9223372036854775807 then (if ((((t108 ++ (⟨#[46]⟩ : ByteArray)) ++ t109) ++ (⟨#[46]⟩ : ByteArray)) ++ t110).size + 1 ≤ 9223372036854775807 then ((qkv.f k (Int.tmod t106 256)).bind fun t111 => (if (((((t108 ++ (⟨#[46]⟩ : ByteArray)) ++ t109) ++ (⟨#[46]⟩ : ByteArray)) ++ t110) ++ (⟨#[46]⟩ : ByteArray)).size + t111.size ≤ 9223372036854775807 then (if ((((((t108 ++ (⟨#[46]⟩ : ByteArray)) ++ t109) ++ (⟨#[46]⟩ : ByteArray)) ++ t110) ++ (⟨#[46]⟩ : ByteArray)) ++ t111).size + 1 ≤ 9223372036854775807 then ((qkv.f k (Int.tmod a0_1 64)).bind fun t112 => (if (((((((t108 ++ (⟨#[46]⟩ : ByteArray)) ++ t109) ++ (⟨#[46]⟩ : ByteArray)) ++ t110) ++ (⟨#[46]⟩ : ByteArray)) ++ t111) ++ (⟨#[47]⟩ : ByteArray)).size + t112.size ≤ 9223372036854775807 then (some ((((((((t108 ++ (⟨#[46]⟩ : ByteArray)) ++ t109) ++ (⟨#[46]⟩ : ByteArray)) ++ t110) ++ (⟨#[46]⟩ : ByteArray)) ++ t111) ++ (⟨#[47]⟩ : ByteArray)) ++ t112)) else (none))) else (none)) else (none))) else (none)) else (none))) else (none)) else (none))) else (none))) = some r := H
       have A47 := qq.mk A470
       clear A470
       replace H := Option.bind_eq_some_iff.mp H
       obtain ⟨t108,A480,H⟩ := H
       replace H : (if t108.size + 1 ≤ 9223372036854775807 then ((qkv.f k (Int.tmod (wrap64 (Int.tdiv t106 65536)) 256)).bind fun t109 => (if (t108 ++ (⟨#[46]⟩ : ByteArray)).size + t109.size ≤ 9223372036854775807 then (if ((t108 ++ (⟨#[46]⟩ : ByteArray)) ++ t109).size + 1 ≤ 9223372036854775807 then ((qkv.f k (Int.tmod (wrap64 (Int.tdiv t106 256)) 256)).bind fun t110 => (if (((t108 ++ (⟨#[46]⟩ : ByteArray)) ++ t109) ++ (⟨#[46]⟩ : ByteArray)).size + t110.size ≤ 9223372036854775807 then (if ((((t108 ++ (⟨#[46]⟩ : ByteArray)) ++ t109) ++ (⟨#[46]⟩ : ByteArray)) ++ t110).size + 1 ≤ 9223372036854775807 then ((qkv.f k (Int.tmod t106 256)).bind fun t111 => (if (((((t108 ++ (⟨#[46]⟩ : ByteArray)) ++ t109) ++ (⟨#[46]⟩ : ByteArray)) ++ t110) ++ (⟨#[46]⟩ : ByteArray)).size + t111.size ≤ 9223372036854775807 then (if ((((((t108 ++ (⟨#[46]⟩ : ByteArray)) ++ t109) ++ (⟨#[46]⟩ : ByteArray)) ++ t110) ++ (⟨#[46]⟩ : ByteArray)) ++ t111).size + 1 ≤ 9223372036854775807 then ((qkv.f k (Int.tmod a0_1 64)).bind fun t112 => (if (((((((t108 ++ (⟨#[46]⟩ : ByteArray)) ++ t109) ++ (⟨#[46]⟩ : ByteArray)) ++ t110) ++ (⟨#[46]⟩ : ByteArray)) ++ t111) ++ (⟨#[47]⟩ : ByteArray)).size + t112.size ≤ 9223372036854775807 then (some ((((((((t108 ++ (⟨#[46]⟩ : ByteArray)) ++ t109) ++ (⟨#[46]⟩ : ByteArray)) ++ t110) ++ (⟨#[46]⟩ : ByteArray)) ++ t111) ++ (⟨#[47]⟩ : ByteArray)) ++ t112)) else (none))) else (none)) else (none))) else (none)) else (none))) else (none)) else (none))) else (none)) = some r := H
       have A48 := qq.mk A480
       clear A480
       by_cases c49 : t108.size + 1 ≤ 9223372036854775807
       ·rw [if_pos c49] at H
        have c49b0 := eq_true c49
        have c49b1 : decide (t108.size + 1 ≤ 9223372036854775807) = true := decide_eq_true c49
        try have c49b2 : (9223372036854775807 < t108.size + 1) = False := eq_false (Nat.not_lt.2 c49)
        replace H := Option.bind_eq_some_iff.mp H
        obtain ⟨t109,A500,H⟩ := H
        replace H : (if (t108 ++ (⟨#[46]⟩ : ByteArray)).size + t109.size ≤ 9223372036854775807 then (if ((t108 ++ (⟨#[46]⟩ : ByteArray)) ++ t109).size + 1 ≤ 9223372036854775807 then ((qkv.f k (Int.tmod (wrap64 (Int.tdiv t106 256)) 256)).bind fun t110 => (if (((t108 ++ (⟨#[46]⟩ : ByteArray)) ++ t109) ++ (⟨#[46]⟩ : ByteArray)).size + t110.size ≤ 9223372036854775807 then (if ((((t108 ++ (⟨#[46]⟩ : ByteArray)) ++ t109) ++ (⟨#[46]⟩ : ByteArray)) ++ t110).size + 1 ≤ 9223372036854775807 then ((qkv.f k (Int.tmod t106 256)).bind fun t111 => (if (((((t108 ++ (⟨#[46]⟩ : ByteArray)) ++ t109) ++ (⟨#[46]⟩ : ByteArray)) ++ t110) ++ (⟨#[46]⟩ : ByteArray)).size + t111.size ≤ 9223372036854775807 then (if ((((((t108 ++ (⟨#[46]⟩ : ByteArray)) ++ t109) ++ (⟨#[46]⟩ : ByteArray)) ++ t110) ++ (⟨#[46]⟩ : ByteArray)) ++ t111).size + 1 ≤ 9223372036854775807 then ((qkv.f k (Int.tmod a0_1 64)).bind fun t112 => (if (((((((t108 ++ (⟨#[46]⟩ : ByteArray)) ++ t109) ++ (⟨#[46]⟩ : ByteArray)) ++ t110) ++ (⟨#[46]⟩ : ByteArray)) ++ t111) ++ (⟨#[47]⟩ : ByteArray)).size + t112.size ≤ 9223372036854775807 then (some ((((((((t108 ++ (⟨#[46]⟩ : ByteArray)) ++ t109) ++ (⟨#[46]⟩ : ByteArray)) ++ t110) ++ (⟨#[46]⟩ : ByteArray)) ++ t111) ++ (⟨#[47]⟩ : ByteArray)) ++ t112)) else (none))) else (none)) else (none))) else (none)) else (none))) else (none)) else (none)) = some r := H
        have A50 := qq.mk A500
        clear A500
        by_cases c51 : (t108 ++ (⟨#[46]⟩ : ByteArray)).size + t109.size ≤ 9223372036854775807
        ·rw [if_pos c51] at H
         have c51b0 := eq_true c51
         have c51b1 : decide ((t108 ++ (⟨#[46]⟩ : ByteArray)).size + t109.size ≤ 9223372036854775807) = true := decide_eq_true c51
         try have c51b2 : (9223372036854775807 < (t108 ++ (⟨#[46]⟩ : ByteArray)).size + t109.size) = False := eq_false (Nat.not_lt.2 c51)
         try (have c51b9 := c51b2;simp only [ByteArray.size_append,show (⟨#[46]⟩ : ByteArray).size = 1 from rfl] at c51b9)
         by_cases c52 : ((t108 ++ (⟨#[46]⟩ : ByteArray)) ++ t109).size + 1 ≤ 9223372036854775807
         ·rw [if_pos c52] at H
          have c52b0 := eq_true c52
          have c52b1 : decide (((t108 ++ (⟨#[46]⟩ : ByteArray)) ++ t109).size + 1 ≤ 9223372036854775807) = true := decide_eq_true c52
          try have c52b2 : (9223372036854775807 < ((t108 ++ (⟨#[46]⟩ : ByteArray)) ++ t109).size + 1) = False := eq_false (Nat.not_lt.2 c52)
          try (have c52b9 := c52b2;simp only [ByteArray.size_append,show (⟨#[46]⟩ : ByteArray).size = 1 from rfl] at c52b9)
          replace H := Option.bind_eq_some_iff.mp H
          obtain ⟨t110,A530,H⟩ := H
          replace H : (if (((t108 ++ (⟨#[46]⟩ : ByteArray)) ++ t109) ++ (⟨#[46]⟩ : ByteArray)).size + t110.size ≤ 9223372036854775807 then (if ((((t108 ++ (⟨#[46]⟩ : ByteArray)) ++ t109) ++ (⟨#[46]⟩ : ByteArray)) ++ t110).size + 1 ≤ 9223372036854775807 then ((qkv.f k (Int.tmod t106 256)).bind fun t111 => (if (((((t108 ++ (⟨#[46]⟩ : ByteArray)) ++ t109) ++ (⟨#[46]⟩ : ByteArray)) ++ t110) ++ (⟨#[46]⟩ : ByteArray)).size + t111.size ≤ 9223372036854775807 then (if ((((((t108 ++ (⟨#[46]⟩ : ByteArray)) ++ t109) ++ (⟨#[46]⟩ : ByteArray)) ++ t110) ++ (⟨#[46]⟩ : ByteArray)) ++ t111).size + 1 ≤ 9223372036854775807 then ((qkv.f k (Int.tmod a0_1 64)).bind fun t112 => (if (((((((t108 ++ (⟨#[46]⟩ : ByteArray)) ++ t109) ++ (⟨#[46]⟩ : ByteArray)) ++ t110) ++ (⟨#[46]⟩ : ByteArray)) ++ t111) ++ (⟨#[47]⟩ : ByteArray)).size + t112.size ≤ 9223372036854775807 then (some ((((((((t108 ++ (⟨#[46]⟩ : ByteArray)) ++ t109) ++ (⟨#[46]⟩ : ByteArray)) ++ t110) ++ (⟨#[46]⟩ : ByteArray)) ++ t111) ++ (⟨#[47]⟩ : ByteArray)) ++ t112)) else (none))) else (none)) else (none))) else (none)) else (none)) = some r := H
          have A53 := qq.mk A530
          clear A530
          by_cases c54 : (((t108 ++ (⟨#[46]⟩ : ByteArray)) ++ t109) ++ (⟨#[46]⟩ : ByteArray)).size + t110.size ≤ 9223372036854775807
          ·rw [if_pos c54] at H
           have c54b0 := eq_true c54
           have c54b1 : decide ((((t108 ++ (⟨#[46]⟩ : ByteArray)) ++ t109) ++ (⟨#[46]⟩ : ByteArray)).size + t110.size ≤ 9223372036854775807) = true := decide_eq_true c54
           try have c54b2 : (9223372036854775807 < (((t108 ++ (⟨#[46]⟩ : ByteArray)) ++ t109) ++ (⟨#[46]⟩ : ByteArray)).size + t110.size) = False := eq_false (Nat.not_lt.2 c54)
           try (have c54b9 := c54b2;simp only [ByteArray.size_append,show (⟨#[46]⟩ : ByteArray).size = 1 from rfl] at c54b9)
           by_cases c55 : ((((t108 ++ (⟨#[46]⟩ : ByteArray)) ++ t109) ++ (⟨#[46]⟩ : ByteArray)) ++ t110).size + 1 ≤ 9223372036854775807
           ·rw [if_pos c55] at H
            have c55b0 := eq_true c55
            have c55b1 : decide (((((t108 ++ (⟨#[46]⟩ : ByteArray)) ++ t109) ++ (⟨#[46]⟩ : ByteArray)) ++ t110).size + 1 ≤ 9223372036854775807) = true := decide_eq_true c55
            try have c55b2 : (9223372036854775807 < ((((t108 ++ (⟨#[46]⟩ : ByteArray)) ++ t109) ++ (⟨#[46]⟩ : ByteArray)) ++ t110).size + 1) = False := eq_false (Nat.not_lt.2 c55)
            try (have c55b9 := c55b2;simp only [ByteArray.size_append,show (⟨#[46]⟩ : ByteArray).size = 1 from rfl] at c55b9)
            replace H := Option.bind_eq_some_iff.mp H
            obtain ⟨t111,A560,H⟩ := H
            replace H : (if (((((t108 ++ (⟨#[46]⟩ : ByteArray)) ++ t109) ++ (⟨#[46]⟩ : ByteArray)) ++ t110) ++ (⟨#[46]⟩ : ByteArray)).size + t111.size ≤ 9223372036854775807 then (if ((((((t108 ++ (⟨#[46]⟩ : ByteArray)) ++ t109) ++ (⟨#[46]⟩ : ByteArray)) ++ t110) ++ (⟨#[46]⟩ : ByteArray)) ++ t111).size + 1 ≤ 9223372036854775807 then ((qkv.f k (Int.tmod a0_1 64)).bind fun t112 => (if (((((((t108 ++ (⟨#[46]⟩ : ByteArray)) ++ t109) ++ (⟨#[46]⟩ : ByteArray)) ++ t110) ++ (⟨#[46]⟩ : ByteArray)) ++ t111) ++ (⟨#[47]⟩ : ByteArray)).size + t112.size ≤ 9223372036854775807 then (some ((((((((t108 ++ (⟨#[46]⟩ : ByteArray)) ++ t109) ++ (⟨#[46]⟩ : ByteArray)) ++ t110) ++ (⟨#[46]⟩ : ByteArray)) ++ t111) ++ (⟨#[47]⟩ : ByteArray)) ++ t112)) else (none))) else (none)) else (none)) = some r := H
            have A56 := qq.mk A560
            clear A560
            by_cases c57 : (((((t108 ++ (⟨#[46]⟩ : ByteArray)) ++ t109) ++ (⟨#[46]⟩ : ByteArray)) ++ t110) ++ (⟨#[46]⟩ : ByteArray)).size + t111.size ≤ 9223372036854775807
            ·rw [if_pos c57] at H
             have c57b0 := eq_true c57
             have c57b1 : decide ((((((t108 ++ (⟨#[46]⟩ : ByteArray)) ++ t109) ++ (⟨#[46]⟩ : ByteArray)) ++ t110) ++ (⟨#[46]⟩ : ByteArray)).size + t111.size ≤ 9223372036854775807) = true := decide_eq_true c57
             try have c57b2 : (9223372036854775807 < (((((t108 ++ (⟨#[46]⟩ : ByteArray)) ++ t109) ++ (⟨#[46]⟩ : ByteArray)) ++ t110) ++ (⟨#[46]⟩ : ByteArray)).size + t111.size) = False := eq_false (Nat.not_lt.2 c57)
             try (have c57b9 := c57b2;simp only [ByteArray.size_append,show (⟨#[46]⟩ : ByteArray).size = 1 from rfl] at c57b9)
             by_cases c58 : ((((((t108 ++ (⟨#[46]⟩ : ByteArray)) ++ t109) ++ (⟨#[46]⟩ : ByteArray)) ++ t110) ++ (⟨#[46]⟩ : ByteArray)) ++ t111).size + 1 ≤ 9223372036854775807
             ·rw [if_pos c58] at H
              have c58b0 := eq_true c58
              have c58b1 : decide (((((((t108 ++ (⟨#[46]⟩ : ByteArray)) ++ t109) ++ (⟨#[46]⟩ : ByteArray)) ++ t110) ++ (⟨#[46]⟩ : ByteArray)) ++ t111).size + 1 ≤ 9223372036854775807) = true := decide_eq_true c58
              try have c58b2 : (9223372036854775807 < ((((((t108 ++ (⟨#[46]⟩ : ByteArray)) ++ t109) ++ (⟨#[46]⟩ : ByteArray)) ++ t110) ++ (⟨#[46]⟩ : ByteArray)) ++ t111).size + 1) = False := eq_false (Nat.not_lt.2 c58)
              try (have c58b9 := c58b2;simp only [ByteArray.size_append,show (⟨#[46]⟩ : ByteArray).size = 1 from rfl] at c58b9)
              replace H := Option.bind_eq_some_iff.mp H
              obtain ⟨t112,A590,H⟩ := H
              replace H : (if (((((((t108 ++ (⟨#[46]⟩ : ByteArray)) ++ t109) ++ (⟨#[46]⟩ : ByteArray)) ++ t110) ++ (⟨#[46]⟩ : ByteArray)) ++ t111) ++ (⟨#[47]⟩ : ByteArray)).size + t112.size ≤ 9223372036854775807 then (some ((((((((t108 ++ (⟨#[46]⟩ : ByteArray)) ++ t109) ++ (⟨#[46]⟩ : ByteArray)) ++ t110) ++ (⟨#[46]⟩ : ByteArray)) ++ t111) ++ (⟨#[47]⟩ : ByteArray)) ++ t112)) else (none)) = some r := H
              have A59 := qq.mk A590
              clear A590
              by_cases c60 : (((((((t108 ++ (⟨#[46]⟩ : ByteArray)) ++ t109) ++ (⟨#[46]⟩ : ByteArray)) ++ t110) ++ (⟨#[46]⟩ : ByteArray)) ++ t111) ++ (⟨#[47]⟩ : ByteArray)).size + t112.size ≤ 9223372036854775807
              ·rw [if_pos c60] at H
               have c60b0 := eq_true c60
               have c60b1 : decide ((((((((t108 ++ (⟨#[46]⟩ : ByteArray)) ++ t109) ++ (⟨#[46]⟩ : ByteArray)) ++ t110) ++ (⟨#[46]⟩ : ByteArray)) ++ t111) ++ (⟨#[47]⟩ : ByteArray)).size + t112.size ≤ 9223372036854775807) = true := decide_eq_true c60
               try have c60b2 : (9223372036854775807 < (((((((t108 ++ (⟨#[46]⟩ : ByteArray)) ++ t109) ++ (⟨#[46]⟩ : ByteArray)) ++ t110) ++ (⟨#[46]⟩ : ByteArray)) ++ t111) ++ (⟨#[47]⟩ : ByteArray)).size + t112.size) = False := eq_false (Nat.not_lt.2 c60)
               try (have c60b9 := c60b2;simp only [ByteArray.size_append,show (⟨#[46]⟩ : ByteArray).size = 1 from rfl,show (⟨#[47]⟩ : ByteArray).size = 1 from rfl] at c60b9)
               obtain rfl := Option.some.inj H
               go_enter Tryz.func22,Tryz.ntmps22
               try go_wp2_with (first | ((with_reducible refine gate_dst (N := 1) rfl ?_);refine box_event ?hg (N := 1) ?hd (cs := #[.int .i64 a0_0,.int .i64 a0_1,.string a0_2,.string a0_3]) (t := 28) ?hr ?_;(case hd => rfl);(case hg => rfl);(case hr => first | (go_simp;done) | (go_simp;rfl));intro gb101 hg w61 hbox hb;have n0_ := qq.mk (zv (by repeat (first | (with_reducible first | exact HB.out | apply qj | apply qz | apply qk) | exact HB.out)) hb);have n1_ := qq.mk (hbox);have n2_ := qq.mk ((by rw [hg];exact (zw (by repeat (first | (with_reducible first | exact HB.out | apply qj | apply qz | apply qk) | exact HB.out))) : w.heap.size ≤ gb101));have n3_ := qq.mk ((by rw [hg];exact (zw (by repeat (first | (with_reducible first | exact HB.out | apply qj | apply qz | apply qk) | exact HB.out))) : w.heap.size ≤ gb101));clear HB;have HB := n0_;have BK101 := n1_;have GW101 := n2_;have GE101 := n3_;clear n0_ n1_ n2_ n3_;clear hb hbox hg;have hcz62_0 : w61.cell? ⟨gb101,0,none⟩ = some (.int .i64 a0_0) := (qw BK101.out 0).trans rfl;have hcz62_1 : w61.cell? ⟨gb101,1,none⟩ = some (.int .i64 a0_1) := (qw BK101.out 1).trans rfl;have hcz62_2 : w61.cell? ⟨gb101,2,none⟩ = some (.string a0_2) := (qw BK101.out 2).trans rfl;have hcz62_3 : w61.cell? ⟨gb101,3,none⟩ = some (.string a0_3) := (qw BK101.out 3).trans rfl;have hfz62_0 := qv BK101.out 0;have hfz62_1 := qv BK101.out 1;have hfz62_2 := qv BK101.out 2;have hfz62_3 := qv BK101.out 3) | ((with_reducible refine jv (f := 50) rfl ?_);refine goesL_ (some 64) rfl rfl Tryz.func50 (by kernel_rfl) rfl #[.agg #[.int .i64 a0_0,.int .i64 a0_1,.string a0_2,.string a0_3]] rfl (by (try simp only [List.map_toArray,List.map_cons,List.map_nil]);first | done | rfl | (simp only [List.length_drop,List.length_take];rfl)) ?_;(with_reducible refine (qkz.calls k a0_0 a0_1 a0_2 a0_3 t106 t107 _ A47.out).mono ?_);rintro e w63 ⟨rfl,hb⟩;refine ⟨_,rfl,?_⟩;have n0_ := qq.mk (kw (g := gb101) (o := .cells #[.int .i64 a0_0,.int .i64 a0_1,.string a0_2,.string a0_3] 28 (0,0)) (by (with_reducible repeat (first | refine zz ?_ _ | refine zj ?_ | refine zq ?_ _));exact BK101.out) hb);have n1_ := qq.mk (zv (by repeat (first | (with_reducible first | exact HB.out | apply qj | apply qz | apply qk | refine qx ?_ GE101.out) | exact HB.out)) hb);clear BK101;clear HB;have BK101 := n0_;have HB := n1_;clear n0_ n1_;(try clear hb);(try clear hb2);(try clear hk);(try clear hi)))
               have n0_ := qq.mk (zj BK101.out)
               have n1_ := qq.mk (qk HB.out)
               clear BK101
               clear HB
               have BK101 := n0_
               have HB := n1_
               clear n0_ n1_
               refine start_ (n := 27) (S := fun w' => w'.cell? ⟨gb101,0,none⟩ = some (.int .i64 a0_0) ∧ w'.cell? ⟨gb101,1,none⟩ = some (.int .i64 a0_1) ∧ w'.cell? ⟨gb101,2,none⟩ = some (.string a0_2) ∧ w'.cell? ⟨gb101,3,none⟩ = some (.string a0_3)) (ds := []) #[false,false,false,false,false,false,false,false,false,false,false,false,false,false,false,false,false,false,false,false,false,false,false,false,false,false,false] (by kernel_rfl) rfl rfl ⟨(qw BK101.out 0).trans rfl,(qw BK101.out 1).trans rfl,(qw BK101.out 2).trans rfl,(qw BK101.out 3).trans rfl⟩ (fun hHeld => ?_);refine with_tabW qvj.tab22 qvj.bits22 (fun HT_ HW_ => ?_)
               generalize w63.drew = w64 at BK101 HB hHeld ⊢
               refine pure_ (i := 0) (N := some 67) (v := ?_) (a' := ?_) #[true,false,false,false,false,false,false,false,false,false,false,false,false,false,false,false,false,false,false,false,false,false,false,false,false,false,false] rfl rfl (any_of HT_.out (by kernel_rfl)) (fun _ _ _ h => h) (Or.inl ⟨by rfl,?_⟩) ?_ ?_
               rotate_left
               ·intro w'
                go_simp
                with_reducible rfl
               rotate_left
               ·simp only [Act.put,List.setIfInBounds_toArray,List.set_cons_zero,List.set_cons_succ,i64_w,i32_w]
                rfl
               refine pure_ (i := 1) (N := some 68) (v := ?_) (a' := ?_) #[true,true,false,false,false,false,false,false,false,false,false,false,false,false,false,false,false,false,false,false,false,false,false,false,false,false,false] rfl rfl (any_of HT_.out (by kernel_rfl)) (fun _ _ _ h => h) (Or.inl ⟨by rfl,?_⟩) ?_ ?_
               rotate_left
               ·intro w'
                go_simp
                with_reducible rfl
               rotate_left
               ·simp only [Act.put,List.setIfInBounds_toArray,List.set_cons_zero,List.set_cons_succ,i64_w,i32_w]
                rfl
               refine pure_ (i := 4) (N := some 71) (v := ?_) (a' := ?_) #[true,true,false,false,true,false,false,false,false,false,false,false,false,false,false,false,false,false,false,false,false,false,false,false,false,false,false] rfl rfl (any_of HT_.out (by kernel_rfl)) (fun _ _ _ h => h) (Or.inl ⟨by rfl,?_⟩) ?_ ?_
               rotate_left
               ·intro w'
                go_simp
                with_reducible rfl
               rotate_left
               ·simp only [Act.put,List.setIfInBounds_toArray,List.set_cons_zero,List.set_cons_succ,i64_w,i32_w]
                rfl
               refine pure_ (i := 5) (N := some 72) (v := ?_) (a' := ?_) #[true,true,false,false,true,true,false,false,false,false,false,false,false,false,false,false,false,false,false,false,false,false,false,false,false,false,false] rfl rfl (any_of HT_.out (by kernel_rfl)) (fun _ _ _ h => h) (Or.inl ⟨by rfl,?_⟩) ?_ ?_
               rotate_left
               ·intro w'
                go_simp
                with_reducible rfl
               rotate_left
               ·simp only [Act.put,List.setIfInBounds_toArray,List.set_cons_zero,List.set_cons_succ,i64_w,i32_w]
                rfl
               refine pure_ (i := 6) (N := some 73) (v := ?_) (a' := ?_) #[true,true,false,false,true,true,true,false,false,false,false,false,false,false,false,false,false,false,false,false,false,false,false,false,false,false,false] rfl rfl (any_of HT_.out (by kernel_rfl)) (fun _ _ _ h => h) (Or.inl ⟨by rfl,?_⟩) ?_ ?_
               rotate_left
               ·intro w'
                go_simp
                with_reducible rfl
               rotate_left
               ·simp only [Act.put,List.setIfInBounds_toArray,List.set_cons_zero,List.set_cons_succ,i64_w,i32_w]
                rfl
               refine pure_ (i := 10) (N := some 77) (v := ?_) (a' := ?_) #[true,true,false,false,true,true,true,false,false,false,true,false,false,false,false,false,false,false,false,false,false,false,false,false,false,false,false] rfl rfl (any_of HT_.out (by kernel_rfl)) (fun _ _ _ h => h) (Or.inl ⟨by rfl,?_⟩) ?_ ?_
               rotate_left
               ·intro w'
                go_simp
                with_reducible rfl
               rotate_left
               ·simp only [Act.put,List.setIfInBounds_toArray,List.set_cons_zero,List.set_cons_succ,i64_w,i32_w]
                rfl
               refine pure_ (i := 11) (N := some 78) (v := ?_) (a' := ?_) #[true,true,false,false,true,true,true,false,false,false,true,true,false,false,false,false,false,false,false,false,false,false,false,false,false,false,false] rfl rfl (any_of HT_.out (by kernel_rfl)) (fun _ _ _ h => h) (Or.inl ⟨by rfl,?_⟩) ?_ ?_
               rotate_left
               ·intro w'
                go_simp
                with_reducible rfl
               rotate_left
               ·simp only [Act.put,List.setIfInBounds_toArray,List.set_cons_zero,List.set_cons_succ,i64_w,i32_w]
                rfl
               refine pure_ (i := 12) (N := some 79) (v := ?_) (a' := ?_) #[true,true,false,false,true,true,true,false,false,false,true,true,true,false,false,false,false,false,false,false,false,false,false,false,false,false,false] rfl rfl (any_of HT_.out (by kernel_rfl)) (fun _ _ _ h => h) (Or.inl ⟨by rfl,?_⟩) ?_ ?_
               rotate_left
               ·intro w'
                go_simp
                with_reducible rfl
               rotate_left
               ·simp only [Act.put,List.setIfInBounds_toArray,List.set_cons_zero,List.set_cons_succ,i64_w,i32_w]
                rfl
               refine pure_ (i := 16) (N := some 83) (v := ?_) (a' := ?_) #[true,true,false,false,true,true,true,false,false,false,true,true,true,false,false,false,true,false,false,false,false,false,false,false,false,false,false] rfl rfl (any_of HT_.out (by kernel_rfl)) (fun _ _ _ h => h) (Or.inl ⟨by rfl,?_⟩) ?_ ?_
               rotate_left
               ·intro w'
                go_simp
                with_reducible rfl
               rotate_left
               ·simp only [Act.put,List.setIfInBounds_toArray,List.set_cons_zero,List.set_cons_succ,i64_w,i32_w]
                rfl
               refine pure_ (i := 17) (N := some 84) (v := ?_) (a' := ?_) #[true,true,false,false,true,true,true,false,false,false,true,true,true,false,false,false,true,true,false,false,false,false,false,false,false,false,false] rfl rfl (any_of HT_.out (by kernel_rfl)) (fun _ _ _ h => h) (Or.inl ⟨by rfl,?_⟩) ?_ ?_
               rotate_left
               ·intro w'
                go_simp
                with_reducible rfl
               rotate_left
               ·simp only [Act.put,List.setIfInBounds_toArray,List.set_cons_zero,List.set_cons_succ,i64_w,i32_w]
                rfl
               refine pure_ (i := 21) (N := some 88) (v := ?_) (a' := ?_) #[true,true,false,false,true,true,true,false,false,false,true,true,true,false,false,false,true,true,false,false,false,true,false,false,false,false,false] rfl rfl (any_of HT_.out (by kernel_rfl)) (fun _ _ _ h => h) (Or.inl ⟨by rfl,?_⟩) ?_ ?_
               rotate_left
               ·intro w'
                go_simp
                with_reducible rfl
               rotate_left
               ·simp only [Act.put,List.setIfInBounds_toArray,List.set_cons_zero,List.set_cons_succ,i64_w,i32_w]
                rfl
               refine take_ (i := 22) (N := some 89) (v := ?_) (a' := ?_) #[true,true,false,false,true,true,true,false,false,false,true,true,true,false,false,false,true,true,false,false,false,true,true,false,false,false,false] rfl rfl (take_ofW HT_.out HW_.out (by kernel_rfl)) (fun _ _ _ h => h) (Or.inl ⟨by rfl,?_⟩) hHeld ?_ ?_
               rotate_left
               ·rintro w' ⟨s0,s1,s2,s3⟩
                go_simp
                with_reducible rfl
               rotate_left
               ·simp only [Act.put,List.setIfInBounds_toArray,List.set_cons_zero,List.set_cons_succ,i64_w,i32_w]
                rfl
               refine pure_ (i := 23) (N := some 90) (v := ?_) (a' := ?_) #[true,true,false,false,true,true,true,false,false,false,true,true,true,false,false,false,true,true,false,false,false,true,true,true,false,false,false] rfl rfl (any_of HT_.out (by kernel_rfl)) (fun _ _ _ h => h) (Or.inl ⟨by rfl,?_⟩) ?_ ?_
               rotate_left
               ·intro w'
                go_simp
                with_reducible rfl
               rotate_left
               ·simp only [Act.put,List.setIfInBounds_toArray,List.set_cons_zero,List.set_cons_succ,i64_w,i32_w]
                rfl
               refine one_ (i := 2) (N := some 69) #[true,true,true,false,true,true,true,false,false,false,true,true,true,false,false,false,true,true,false,false,false,true,true,true,false,false,false] rfl rfl (one_of HT_.out (by kernel_rfl)) (by decide) (fun K hK => ?_)
               refine goes_ Tryz.func47 (by kernel_rfl) rfl #[.int .i64 (wrap64 (Int.tdiv t106 16777216))] (by rfl) rfl rfl (by (try simp only [List.map_toArray,List.map_cons,List.map_nil]);first | done | rfl | (simp only [List.length_drop,List.length_take];rfl)) ?_
               with_reducible refine (qkv.calls k (wrap64 (Int.tdiv t106 16777216)) t108 _ A48.out).mono ?_
               rintro e w65 ⟨rfl,hb⟩
               refine ⟨_,rfl,?_⟩
               have n0_ := qq.mk (kw (g := gb101) (o := .cells #[.int .i64 a0_0,.int .i64 a0_1,.string a0_2,.string a0_3] 28 (0,0)) (by (with_reducible repeat (first | refine zz ?_ _ | refine zj ?_ | refine zq ?_ _));exact BK101.out) hb)
               have n1_ := qq.mk (zv (by repeat (first | (with_reducible first | exact HB.out | apply qj | apply qz | apply qk | refine qx ?_ GE101.out) | exact HB.out)) hb)
               clear BK101
               clear HB
               have BK101 := n0_
               have HB := n1_
               clear n0_ n1_
               (try clear hb)
               (try clear hb2)
               (try clear hk)
               (try clear hi)
               refine hK.out _ _ ⟨(qw BK101.out 0).trans rfl,(qw BK101.out 1).trans rfl,(qw BK101.out 2).trans rfl,(qw BK101.out 3).trans rfl⟩ (fun hHeld => ?_)
               clear hK K
               refine norm_ (a' := ?_) ?_ ?_
               rotate_left
               ·show Act.put _ (some 69) _ = _
                simp only [Act.put,List.setIfInBounds_toArray,List.set_cons_zero,List.set_cons_succ,i64_w,i32_w]
                rfl
               refine pure_ (i := 3) (N := some 70) (v := ?_) (a' := ?_) #[true,true,true,true,true,true,true,false,false,false,true,true,true,false,false,false,true,true,false,false,false,true,true,true,false,false,false] rfl rfl (any_of HT_.out (by kernel_rfl)) (fun _ _ _ h => h) (Or.inl ⟨by rfl,?_⟩) ?_ ?_
               rotate_left
               ·intro w'
                go_simp
                with_reducible rfl
               rotate_left
               ·simp only [Act.put,List.setIfInBounds_toArray,List.set_cons_zero,List.set_cons_succ,i64_w,i32_w]
                rfl
               refine one_ (i := 7) (N := some 74) #[true,true,true,true,true,true,true,true,false,false,true,true,true,false,false,false,true,true,false,false,false,true,true,true,false,false,false] rfl rfl (one_of HT_.out (by kernel_rfl)) (by decide) (fun K hK => ?_)
               refine goes_ Tryz.func47 (by kernel_rfl) rfl #[.int .i64 (Int.tmod (wrap64 (Int.tdiv t106 65536)) 256)] (by rfl) rfl rfl (by (try simp only [List.map_toArray,List.map_cons,List.map_nil]);first | done | rfl | (simp only [List.length_drop,List.length_take];rfl)) ?_
               with_reducible refine (qkv.calls k (Int.tmod (wrap64 (Int.tdiv t106 65536)) 256) t109 _ A50.out).mono ?_
               rintro e w66 ⟨rfl,hb⟩
               refine ⟨_,rfl,?_⟩
               have n0_ := qq.mk (kw (g := gb101) (o := .cells #[.int .i64 a0_0,.int .i64 a0_1,.string a0_2,.string a0_3] 28 (0,0)) (by (with_reducible repeat (first | refine zz ?_ _ | refine zj ?_ | refine zq ?_ _));exact BK101.out) hb)
               have n1_ := qq.mk (zv (by repeat (first | (with_reducible first | exact HB.out | apply qj | apply qz | apply qk | refine qx ?_ GE101.out) | exact HB.out)) hb)
               clear BK101
               clear HB
               have BK101 := n0_
               have HB := n1_
               clear n0_ n1_
               (try clear hb)
               (try clear hb2)
               (try clear hk)
               (try clear hi)
               refine hK.out _ _ ⟨(qw BK101.out 0).trans rfl,(qw BK101.out 1).trans rfl,(qw BK101.out 2).trans rfl,(qw BK101.out 3).trans rfl⟩ (fun hHeld => ?_)
               clear hK K
               refine norm_ (a' := ?_) ?_ ?_
               rotate_left
               ·show Act.put _ (some 74) _ = _
                simp only [Act.put,List.setIfInBounds_toArray,List.set_cons_zero,List.set_cons_succ,i64_w,i32_w]
                rfl
               refine pure_ (i := 8) (N := some 75) (v := ?_) (a' := ?_) #[true,true,true,true,true,true,true,true,true,false,true,true,true,false,false,false,true,true,false,false,false,true,true,true,false,false,false] rfl rfl (any_of HT_.out (by kernel_rfl)) (fun _ _ _ h => h) (Or.inl ⟨by rfl,?_⟩) ?_ ?_
               rotate_left
               ·intro w'
                go_simp
                with_reducible rfl
               rotate_left
               ·simp only [Act.put,List.setIfInBounds_toArray,List.set_cons_zero,List.set_cons_succ,i64_w,i32_w]
                rfl
               refine pure_ (i := 9) (N := some 76) (v := ?_) (a' := ?_) #[true,true,true,true,true,true,true,true,true,true,true,true,true,false,false,false,true,true,false,false,false,true,true,true,false,false,false] rfl rfl (any_of HT_.out (by kernel_rfl)) (fun _ _ _ h => h) (Or.inl ⟨by rfl,?_⟩) ?_ ?_
               rotate_left
               ·intro w'
                go_simp
                with_reducible rfl
               rotate_left
               ·simp only [Act.put,List.setIfInBounds_toArray,List.set_cons_zero,List.set_cons_succ,i64_w,i32_w]
                rfl
               refine one_ (i := 13) (N := some 80) #[true,true,true,true,true,true,true,true,true,true,true,true,true,true,false,false,true,true,false,false,false,true,true,true,false,false,false] rfl rfl (one_of HT_.out (by kernel_rfl)) (by decide) (fun K hK => ?_)
               refine goes_ Tryz.func47 (by kernel_rfl) rfl #[.int .i64 (Int.tmod (wrap64 (Int.tdiv t106 256)) 256)] (by rfl) rfl rfl (by (try simp only [List.map_toArray,List.map_cons,List.map_nil]);first | done | rfl | (simp only [List.length_drop,List.length_take];rfl)) ?_
               with_reducible refine (qkv.calls k (Int.tmod (wrap64 (Int.tdiv t106 256)) 256) t110 _ A53.out).mono ?_
               rintro e w67 ⟨rfl,hb⟩
               refine ⟨_,rfl,?_⟩
               have n0_ := qq.mk (kw (g := gb101) (o := .cells #[.int .i64 a0_0,.int .i64 a0_1,.string a0_2,.string a0_3] 28 (0,0)) (by (with_reducible repeat (first | refine zz ?_ _ | refine zj ?_ | refine zq ?_ _));exact BK101.out) hb)
               have n1_ := qq.mk (zv (by repeat (first | (with_reducible first | exact HB.out | apply qj | apply qz | apply qk | refine qx ?_ GE101.out) | exact HB.out)) hb)
               clear BK101
               clear HB
               have BK101 := n0_
               have HB := n1_
               clear n0_ n1_
               (try clear hb)
               (try clear hb2)
               (try clear hk)
               (try clear hi)
               refine hK.out _ _ ⟨(qw BK101.out 0).trans rfl,(qw BK101.out 1).trans rfl,(qw BK101.out 2).trans rfl,(qw BK101.out 3).trans rfl⟩ (fun hHeld => ?_)
               clear hK K
               refine norm_ (a' := ?_) ?_ ?_
               rotate_left
               ·show Act.put _ (some 80) _ = _
                simp only [Act.put,List.setIfInBounds_toArray,List.set_cons_zero,List.set_cons_succ,i64_w,i32_w]
                rfl
               refine pure_ (i := 14) (N := some 81) (v := ?_) (a' := ?_) #[true,true,true,true,true,true,true,true,true,true,true,true,true,true,true,false,true,true,false,false,false,true,true,true,false,false,false] rfl rfl (any_of HT_.out (by kernel_rfl)) (fun _ _ _ h => h) (Or.inl ⟨by rfl,?_⟩) ?_ ?_
               rotate_left
               ·intro w'
                go_simp
                with_reducible rfl
               rotate_left
               ·simp only [Act.put,List.setIfInBounds_toArray,List.set_cons_zero,List.set_cons_succ,i64_w,i32_w]
                rfl
               refine pure_ (i := 15) (N := some 82) (v := ?_) (a' := ?_) #[true,true,true,true,true,true,true,true,true,true,true,true,true,true,true,true,true,true,false,false,false,true,true,true,false,false,false] rfl rfl (any_of HT_.out (by kernel_rfl)) (fun _ _ _ h => h) (Or.inl ⟨by rfl,?_⟩) ?_ ?_
               rotate_left
               ·intro w'
                go_simp
                with_reducible rfl
               rotate_left
               ·simp only [Act.put,List.setIfInBounds_toArray,List.set_cons_zero,List.set_cons_succ,i64_w,i32_w]
                rfl
               refine one_ (i := 18) (N := some 85) #[true,true,true,true,true,true,true,true,true,true,true,true,true,true,true,true,true,true,true,false,false,true,true,true,false,false,false] rfl rfl (one_of HT_.out (by kernel_rfl)) (by decide) (fun K hK => ?_)
               refine goes_ Tryz.func47 (by kernel_rfl) rfl #[.int .i64 (Int.tmod t106 256)] (by rfl) rfl rfl (by (try simp only [List.map_toArray,List.map_cons,List.map_nil]);first | done | rfl | (simp only [List.length_drop,List.length_take];rfl)) ?_
               with_reducible refine (qkv.calls k (Int.tmod t106 256) t111 _ A56.out).mono ?_
               rintro e w68 ⟨rfl,hb⟩
               refine ⟨_,rfl,?_⟩
               have n0_ := qq.mk (kw (g := gb101) (o := .cells #[.int .i64 a0_0,.int .i64 a0_1,.string a0_2,.string a0_3] 28 (0,0)) (by (with_reducible repeat (first | refine zz ?_ _ | refine zj ?_ | refine zq ?_ _));exact BK101.out) hb)
               have n1_ := qq.mk (zv (by repeat (first | (with_reducible first | exact HB.out | apply qj | apply qz | apply qk | refine qx ?_ GE101.out) | exact HB.out)) hb)
               clear BK101
               clear HB
               have BK101 := n0_
               have HB := n1_
               clear n0_ n1_
               (try clear hb)
               (try clear hb2)
               (try clear hk)
               (try clear hi)
               refine hK.out _ _ ⟨(qw BK101.out 0).trans rfl,(qw BK101.out 1).trans rfl,(qw BK101.out 2).trans rfl,(qw BK101.out 3).trans rfl⟩ (fun hHeld => ?_)
               clear hK K
               refine norm_ (a' := ?_) ?_ ?_
               rotate_left
               ·show Act.put _ (some 85) _ = _
                simp only [Act.put,List.setIfInBounds_toArray,List.set_cons_zero,List.set_cons_succ,i64_w,i32_w]
                rfl
               refine pure_ (i := 19) (N := some 86) (v := ?_) (a' := ?_) #[true,true,true,true,true,true,true,true,true,true,true,true,true,true,true,true,true,true,true,true,false,true,true,true,false,false,false] rfl rfl (any_of HT_.out (by kernel_rfl)) (fun _ _ _ h => h) (Or.inl ⟨by rfl,?_⟩) ?_ ?_
               rotate_left
               ·intro w'
                go_simp
                with_reducible rfl
               rotate_left
               ·simp only [Act.put,List.setIfInBounds_toArray,List.set_cons_zero,List.set_cons_succ,i64_w,i32_w]
                rfl
               refine pure_ (i := 20) (N := some 87) (v := ?_) (a' := ?_) #[true,true,true,true,true,true,true,true,true,true,true,true,true,true,true,true,true,true,true,true,true,true,true,true,false,false,false] rfl rfl (any_of HT_.out (by kernel_rfl)) (fun _ _ _ h => h) (Or.inl ⟨by rfl,?_⟩) ?_ ?_
               rotate_left
               ·intro w'
                go_simp
                with_reducible rfl
               rotate_left
               ·simp only [Act.put,List.setIfInBounds_toArray,List.set_cons_zero,List.set_cons_succ,i64_w,i32_w]
                rfl
               refine one_ (i := 24) (N := some 91) #[true,true,true,true,true,true,true,true,true,true,true,true,true,true,true,true,true,true,true,true,true,true,true,true,true,false,false] rfl rfl (one_of HT_.out (by kernel_rfl)) (by decide) (fun K hK => ?_)
               refine goes_ Tryz.func47 (by kernel_rfl) rfl #[.int .i64 (Int.tmod a0_1 64)] (by rfl) rfl rfl (by (try simp only [List.map_toArray,List.map_cons,List.map_nil]);first | done | rfl | (simp only [List.length_drop,List.length_take];rfl)) ?_
               with_reducible refine (qkv.calls k (Int.tmod a0_1 64) t112 _ A59.out).mono ?_
               rintro e w69 ⟨rfl,hb⟩
               refine ⟨_,rfl,?_⟩
               have n0_ := qq.mk (kw (g := gb101) (o := .cells #[.int .i64 a0_0,.int .i64 a0_1,.string a0_2,.string a0_3] 28 (0,0)) (by (with_reducible repeat (first | refine zz ?_ _ | refine zj ?_ | refine zq ?_ _));exact BK101.out) hb)
               have n1_ := qq.mk (zv (by repeat (first | (with_reducible first | exact HB.out | apply qj | apply qz | apply qk | refine qx ?_ GE101.out) | exact HB.out)) hb)
               clear BK101
               clear HB
               have BK101 := n0_
               have HB := n1_
               clear n0_ n1_
               (try clear hb)
               (try clear hb2)
               (try clear hk)
               (try clear hi)
               refine hK.out _ _ ⟨(qw BK101.out 0).trans rfl,(qw BK101.out 1).trans rfl,(qw BK101.out 2).trans rfl,(qw BK101.out 3).trans rfl⟩ (fun hHeld => ?_)
               clear hK K
               refine norm_ (a' := ?_) ?_ ?_
               rotate_left
               ·show Act.put _ (some 91) _ = _
                simp only [Act.put,List.setIfInBounds_toArray,List.set_cons_zero,List.set_cons_succ,i64_w,i32_w]
                rfl
               refine pure_ (i := 25) (N := some 92) (v := ?_) (a' := ?_) #[true,true,true,true,true,true,true,true,true,true,true,true,true,true,true,true,true,true,true,true,true,true,true,true,true,true,false] rfl rfl (any_of HT_.out (by kernel_rfl)) (fun _ _ _ h => h) (Or.inl ⟨by rfl,?_⟩) ?_ ?_
               rotate_left
               ·intro w'
                go_simp
                with_reducible rfl
               rotate_left
               ·simp only [Act.put,List.setIfInBounds_toArray,List.set_cons_zero,List.set_cons_succ,i64_w,i32_w]
                rfl
               refine pure_ (i := 26) (N := some 2) (v := ?_) (a' := ?_) #[true,true,true,true,true,true,true,true,true,true,true,true,true,true,true,true,true,true,true,true,true,true,true,true,true,true,true] rfl rfl (any_of HT_.out (by kernel_rfl)) (fun _ _ _ h => h) (Or.inl ⟨by rfl,?_⟩) ?_ ?_
               rotate_left
               ·intro w'
                go_simp
                with_reducible rfl
               rotate_left
               ·simp only [Act.put,List.setIfInBounds_toArray,List.set_cons_zero,List.set_cons_succ,i64_w,i32_w]
                rfl
               refine done_ (done_of HT_.out (by kernel_rfl)) ?_
               try go_wp2
               go_ret
               exact ⟨by first | rfl | (simp [*,jk,jj] <;> rfl),by repeat (first | (with_reducible first | exact HB.out | apply qj | apply qz | apply qk | refine qx ?_ GE101.out) | exact HB.out)⟩
              ·rw [if_neg c60] at H
               exact absurd H (by simp)
             ·rw [if_neg c58] at H
              exact absurd H (by simp)
            ·rw [if_neg c57] at H
             exact absurd H (by simp)
           ·rw [if_neg c55] at H
            exact absurd H (by simp)
          ·rw [if_neg c54] at H
           exact absurd H (by simp)
         ·rw [if_neg c52] at H
          exact absurd H (by simp)
        ·rw [if_neg c51] at H
         exact absurd H (by simp)
       ·rw [if_neg c49] at H
        exact absurd H (by simp)
      ·rw [if_neg c46] at H
       have c46b0 : (a0_0 == 6) = false := beq_eq_false_iff_ne.mpr c46
       have c46b1 : (a0_0 != 6) = true := bne_iff_ne.mpr c46
       replace H := Option.bind_eq_some_iff.mp H
       obtain ⟨t113,A700,H⟩ := H
       replace H : (if 1 + t113.size ≤ 9223372036854775807 then (some ((⟨#[64]⟩ : ByteArray) ++ t113)) else (none)) = some r := H
       have A70 := qq.mk A700
       clear A700
       by_cases c71 : 1 + t113.size ≤ 9223372036854775807
       ·rw [if_pos c71] at H
        have c71b0 := eq_true c71
        have c71b1 : decide (1 + t113.size ≤ 9223372036854775807) = true := decide_eq_true c71
        try have c71b2 : (9223372036854775807 < 1 + t113.size) = False := eq_false (Nat.not_lt.2 c71)
        obtain rfl := Option.some.inj H
        go_enter Tryz.func22,Tryz.ntmps22
        go_wp2_with (first | ((with_reducible refine gate_dst (N := 1) rfl ?_);refine box_event ?hg (N := 1) ?hd (cs := #[.int .i64 a0_0,.int .i64 a0_1,.string a0_2,.string a0_3]) (t := 28) ?hr ?_;(case hd => rfl);(case hg => rfl);(case hr => first | (go_simp;done) | (go_simp;rfl));intro gb101 hg w72 hbox hb;have n0_ := qq.mk (zv (by repeat (first | (with_reducible first | exact HB.out | apply qj | apply qz | apply qk) | exact HB.out)) hb);have n1_ := qq.mk (hbox);have n2_ := qq.mk ((by rw [hg];exact (zw (by repeat (first | (with_reducible first | exact HB.out | apply qj | apply qz | apply qk) | exact HB.out))) : w.heap.size ≤ gb101));have n3_ := qq.mk ((by rw [hg];exact (zw (by repeat (first | (with_reducible first | exact HB.out | apply qj | apply qz | apply qk) | exact HB.out))) : w.heap.size ≤ gb101));clear HB;have HB := n0_;have BK101 := n1_;have GW101 := n2_;have GE101 := n3_;clear n0_ n1_ n2_ n3_;clear hb hbox hg;have hcz73_0 : w72.cell? ⟨gb101,0,none⟩ = some (.int .i64 a0_0) := (qw BK101.out 0).trans rfl;have hcz73_1 : w72.cell? ⟨gb101,1,none⟩ = some (.int .i64 a0_1) := (qw BK101.out 1).trans rfl;have hcz73_2 : w72.cell? ⟨gb101,2,none⟩ = some (.string a0_2) := (qw BK101.out 2).trans rfl;have hcz73_3 : w72.cell? ⟨gb101,3,none⟩ = some (.string a0_3) := (qw BK101.out 3).trans rfl;have hfz73_0 := qv BK101.out 0;have hfz73_1 := qv BK101.out 1;have hfz73_2 := qv BK101.out 2;have hfz73_3 := qv BK101.out 3) | ((with_reducible refine jv (f := 47) rfl ?_);refine goesL_ (some 95) rfl rfl Tryz.func47 (by kernel_rfl) rfl #[.int .i64 a0_1] rfl (by (try simp only [List.map_toArray,List.map_cons,List.map_nil]);first | done | rfl | (simp only [List.length_drop,List.length_take];rfl)) ?_;(with_reducible refine (qkv.calls k a0_1 t113 _ A70.out).mono ?_);rintro e w74 ⟨rfl,hb⟩;refine ⟨_,rfl,?_⟩;have n0_ := qq.mk (kw (g := gb101) (o := .cells #[.int .i64 a0_0,.int .i64 a0_1,.string a0_2,.string a0_3] 28 (0,0)) (by (with_reducible repeat (first | refine zz ?_ _ | refine zj ?_ | refine zq ?_ _));exact BK101.out) hb);have n1_ := qq.mk (zv (by repeat (first | (with_reducible first | exact HB.out | apply qj | apply qz | apply qk | refine qx ?_ GE101.out) | exact HB.out)) hb);clear BK101;clear HB;have BK101 := n0_;have HB := n1_;clear n0_ n1_;(try clear hb);(try clear hb2);(try clear hk);(try clear hi)))
        go_ret
        exact ⟨by first | rfl | (simp [*,jk,jj] <;> rfl),by repeat (first | (with_reducible first | exact HB.out | apply qj | apply qz | apply qk | refine qx ?_ GE101.out) | exact HB.out)⟩
       ·rw [if_neg c71] at H
        exact absurd H (by simp)
end Go.Proofs.YtnbbbjfjkhglhaaGreatDoor.Pr
