/- The law FnExactTermText: whatever the input, the call returns true and the arguments read as before. No conditions. -/
import Derived.Test.YtnbbbjfjkhglhaaGreatDoorFullFnExactTermTextC
import Derived.Deep.QuietTactic
import Derived.BigQuiet
import Derived.Laws.Cover1
import Derived.Laws.Strings
import Derived.Test.YtnbbbjfjkhglhaaGreatDoorRows
import Derived.Test.YtnbbbjfjkhglhaaGreatDoorCards
import Derived.Test.YtnbbbjfjkhglhaaGreatDoorTie
import Derived.WalkKit
import Derived.ProofKit
import Derived.OpenShut
import Derived.ShutString
import Derived.ChangeOld
import Derived.Below
import Derived.SevenTiedAt
import Derived.Stop.LaidErr
import Derived.Lib.LaidTab
import Derived.LaidMore
import Derived.OpenVars
import Derived.ChangeVars
namespace Go.Proofs.YtnbbbjfjkhglhaaGreatDoor.Pr
open Go.RowKit Go.Proofs.YtnbbbjfjkhglhaaGreatDoorW.PrintWords Go.Proofs.YtnbbbjfjkhglhaaGreatDoorW.PrintLast Go.Proofs.YtnbbbjfjkhglhaaGreatDoorW.PrintMore
attribute [local go_sem] max2_int min2_int max_two min_two max_three min_three max_four min_four
set_option linter.unusedVariables false
set_option linter.unusedSimpArgs false
def qqv.l0 : Nat → ByteArray → Int → Int → ByteArray → ByteArray → Option (ByteArray)
 | 0,_,_,_,_,_ => none
 | k + 1,x3,x102000,x102001,x102002,x102003 => if (x3.size : Int) < 5 then (if 1 + x3.size ≤ 9223372036854775807 then (qqv.l0 k ((⟨#[48]⟩ : ByteArray) ++ x3) x102000 x102001 x102002 x102003) else (none)) else (if 0 ≤ (wrap64 ((x3.size : Int) - 4)) then (if (wrap64 ((x3.size : Int) - 4)) ≤ (x3.size : Int) then (if (x3.extract 0 ((wrap64 ((x3.size : Int) - 4)) : Int).toNat).size + 1 ≤ 9223372036854775807 then (if ((x3.extract 0 ((wrap64 ((x3.size : Int) - 4)) : Int).toNat) ++ (⟨#[46]⟩ : ByteArray)).size + (x3.extract ((wrap64 ((x3.size : Int) - 4)) : Int).toNat x3.size).size ≤ 9223372036854775807 then (if x102001 < 0 then (if 1 + (((x3.extract 0 ((wrap64 ((x3.size : Int) - 4)) : Int).toNat) ++ (⟨#[46]⟩ : ByteArray)) ++ (x3.extract ((wrap64 ((x3.size : Int) - 4)) : Int).toNat x3.size)).size ≤ 9223372036854775807 then (some ((⟨#[45]⟩ : ByteArray) ++ (((x3.extract 0 ((wrap64 ((x3.size : Int) - 4)) : Int).toNat) ++ (⟨#[46]⟩ : ByteArray)) ++ (x3.extract ((wrap64 ((x3.size : Int) - 4)) : Int).toNat x3.size)))) else (none)) else (some (((x3.extract 0 ((wrap64 ((x3.size : Int) - 4)) : Int).toNat) ++ (⟨#[46]⟩ : ByteArray)) ++ (x3.extract ((wrap64 ((x3.size : Int) - 4)) : Int).toNat x3.size)))) else (none)) else (none)) else (none)) else (none))
def qqv.f (k : Nat) (a0_0 : Int) (a0_1 : Int) (a0_2 : ByteArray) (a0_3 : ByteArray) : Option (ByteArray) := if a0_0 = 1 then (if a0_1 = 1 then (some (⟨#[116,114,117,101]⟩ : ByteArray)) else (some (⟨#[102,97,108,115,101]⟩ : ByteArray))) else (if a0_0 = 2 then ((xx.f k a0_1).bind fun t102 => (some t102)) else (if a0_0 = 3 then ((qqj.f k a0_2).bind fun t103 => (some t103)) else (if a0_0 = 4 then (if a0_3.size + 2 ≤ 9223372036854775807 then ((qqj.f k a0_2).bind fun t104 => (if (a0_3 ++ (⟨#[58,58]⟩ : ByteArray)).size + t104.size ≤ 9223372036854775807 then (some ((a0_3 ++ (⟨#[58,58]⟩ : ByteArray)) ++ t104)) else (none))) else (none)) else (if a0_0 = 5 then ((qqk.f k a0_1).bind fun t105 => (qqv.l0 k t105 a0_0 a0_1 a0_2 a0_3)) else (if a0_0 = 6 then ((xk.f k a0_0 a0_1 a0_2 a0_3).bind fun bt106 => ((xx.f k (wrap64 (Int.tdiv bt106.1 16777216))).bind fun t108 => (if t108.size + 1 ≤ 9223372036854775807 then ((xx.f k (Int.tmod (wrap64 (Int.tdiv bt106.1 65536)) 256)).bind fun t109 => (if (t108 ++ (⟨#[46]⟩ : ByteArray)).size + t109.size ≤ 9223372036854775807 then (if ((t108 ++ (⟨#[46]⟩ : ByteArray)) ++ t109).size + 1 ≤ 9223372036854775807 then ((xx.f k (Int.tmod (wrap64 (Int.tdiv bt106.1 256)) 256)).bind fun t110 => (if (((t108 ++ (⟨#[46]⟩ : ByteArray)) ++ t109) ++ (⟨#[46]⟩ : ByteArray)).size + t110.size ≤ 9223372036854775807 then (if ((((t108 ++ (⟨#[46]⟩ : ByteArray)) ++ t109) ++ (⟨#[46]⟩ : ByteArray)) ++ t110).size + 1 ≤ 9223372036854775807 then ((xx.f k (Int.tmod bt106.1 256)).bind fun t111 => (if (((((t108 ++ (⟨#[46]⟩ : ByteArray)) ++ t109) ++ (⟨#[46]⟩ : ByteArray)) ++ t110) ++ (⟨#[46]⟩ : ByteArray)).size + t111.size ≤ 9223372036854775807 then (if ((((((t108 ++ (⟨#[46]⟩ : ByteArray)) ++ t109) ++ (⟨#[46]⟩ : ByteArray)) ++ t110) ++ (⟨#[46]⟩ : ByteArray)) ++ t111).size + 1 ≤ 9223372036854775807 then ((xx.f k (Int.tmod a0_1 64)).bind fun t112 => (if (((((((t108 ++ (⟨#[46]⟩ : ByteArray)) ++ t109) ++ (⟨#[46]⟩ : ByteArray)) ++ t110) ++ (⟨#[46]⟩ : ByteArray)) ++ t111) ++ (⟨#[47]⟩ : ByteArray)).size + t112.size ≤ 9223372036854775807 then (some ((((((((t108 ++ (⟨#[46]⟩ : ByteArray)) ++ t109) ++ (⟨#[46]⟩ : ByteArray)) ++ t110) ++ (⟨#[46]⟩ : ByteArray)) ++ t111) ++ (⟨#[47]⟩ : ByteArray)) ++ t112)) else (none))) else (none)) else (none))) else (none)) else (none))) else (none)) else (none))) else (none)))) else ((xx.f k a0_1).bind fun t113 => (if 1 + t113.size ≤ 9223372036854775807 then (some ((⟨#[64]⟩ : ByteArray) ++ t113)) else (none))))))))
def qqv.T11 : Bool × List (List Nat × List Nat) := (true,[([],[]),([0],[0]),([1],[1]),([],[]),([3],[3]),([4],[4]),([2,5],[2,5]),([6,5,0,1,2,3,4,5,6],[6])])
def qqv.B11 : List Nat := [0,1,3,0,8,24,63,127]
theorem qqv.tab11 : rtab .any (opsOf Tryz.f22 11) = qqv.T11 := by kernel_rfl
theorem qqv.bits11 : waitsOk qqv.T11.2 qqv.B11 = true := by kernel_rfl
def qqv.T22 : Bool × List (List Nat × List Nat) := (true,[([],[]),([0],[0]),([1],[1]),([2],[2]),([],[]),([4],[4]),([5],[5]),([6,2],[6]),([3,7],[3,7]),([8],[8]),([],[]),([10],[10]),([11],[11]),([12,7],[12]),([9,13],[9,13]),([14],[14]),([],[]),([16],[16]),([17,13],[17]),([15,18],[15,18]),([19],[19]),([],[]),([21],[21]),([22],[22]),([23,18],[23]),([20,24],[20,24]),([25,24,0,1,2,3,4,5,6,7,8,9,10,11,12,13,14,15,16,17,18,19,20,21,22,23,24,25],[25])])
def qqv.B22 : List Nat := [0,1,3,7,0,16,48,119,255,511,0,1024,3072,7415,16383,32767,0,65536,212215,524287,1048575,0,2097152,6291456,15154423,33554431,67108863]
theorem qqv.tab22 : rtab .any (opsOf Tryz.f22 22) = qqv.T22 := by kernel_rfl
theorem qqv.bits22 : waitsOk qqv.T22.2 qqv.B22 = true := by kernel_rfl
set_option maxHeartbeats 8000000 in
set_option maxRecDepth 100000 in
theorem qqv.calls (k : Nat) (a0_0 : Int) (a0_1 : Int) (a0_2 : ByteArray) (a0_3 : ByteArray) (r : ByteArray) (w : World) (h : qqv.f k a0_0 a0_1 a0_2 a0_3 = some r) :
  Calls Tryz.prog 22 #[.agg #[.int .i64 a0_0,.int .i64 a0_1,.string a0_2,.string a0_3]] w fun e w' => e = .returned (.string r) ∧ Below w.heap.size w w' := by
 have hu28 := Tryz.underlying28
 have HB := qq.mk (Below.refl w.heap.size w)
 have H : (if a0_0 = 1 then (if a0_1 = 1 then (some (⟨#[116,114,117,101]⟩ : ByteArray)) else (some (⟨#[102,97,108,115,101]⟩ : ByteArray))) else (if a0_0 = 2 then ((xx.f k a0_1).bind fun t102 => (some t102)) else (if a0_0 = 3 then ((qqj.f k a0_2).bind fun t103 => (some t103)) else (if a0_0 = 4 then (if a0_3.size + 2 ≤ 9223372036854775807 then ((qqj.f k a0_2).bind fun t104 => (if (a0_3 ++ (⟨#[58,58]⟩ : ByteArray)).size + t104.size ≤ 9223372036854775807 then (some ((a0_3 ++ (⟨#[58,58]⟩ : ByteArray)) ++ t104)) else (none))) else (none)) else (if a0_0 = 5 then ((qqk.f k a0_1).bind fun t105 => (qqv.l0 k t105 a0_0 a0_1 a0_2 a0_3)) else (if a0_0 = 6 then ((xk.f k a0_0 a0_1 a0_2 a0_3).bind fun bt106 => ((xx.f k (wrap64 (Int.tdiv bt106.1 16777216))).bind fun t108 => (if t108.size + 1 ≤ 9223372036854775807 then ((xx.f k (Int.tmod (wrap64 (Int.tdiv bt106.1 65536)) 256)).bind fun t109 => (if (t108 ++ (⟨#[46]⟩ : ByteArray)).size + t109.size ≤ 9223372036854775807 then (if ((t108 ++ (⟨#[46]⟩ : ByteArray)) ++ t109).size + 1 ≤ 9223372036854775807 then ((xx.f k (Int.tmod (wrap64 (Int.tdiv bt106.1 256)) 256)).bind fun t110 => (if (((t108 ++ (⟨#[46]⟩ : ByteArray)) ++ t109) ++ (⟨#[46]⟩ : ByteArray)).size + t110.size ≤ 9223372036854775807 then (if ((((t108 ++ (⟨#[46]⟩ : ByteArray)) ++ t109) ++ (⟨#[46]⟩ : ByteArray)) ++ t110).size + 1 ≤ 9223372036854775807 then ((xx.f k (Int.tmod bt106.1 256)).bind fun t111 => (if (((((t108 ++ (⟨#[46]⟩ : ByteArray)) ++ t109) ++ (⟨#[46]⟩ : ByteArray)) ++ t110) ++ (⟨#[46]⟩ : ByteArray)).size + t111.size ≤ 9223372036854775807 then (if ((((((t108 ++ (⟨#[46]⟩ : ByteArray)) ++ t109) ++ (⟨#[46]⟩ : ByteArray)) ++ t110) ++ (⟨#[46]⟩ : ByteArray)) ++ t111).size + 1 ≤ 9223372036854775807 then ((xx.f k (Int.tmod a0_1 64)).bind fun t112 => (if (((((((t108 ++ (⟨#[46]⟩ : ByteArray)) ++ t109) ++ (⟨#[46]⟩ : ByteArray)) ++ t110) ++ (⟨#[46]⟩ : ByteArray)) ++ t111) ++ (⟨#[47]⟩ : ByteArray)).size + t112.size ≤ 9223372036854775807 then (some ((((((((t108 ++ (⟨#[46]⟩ : ByteArray)) ++ t109) ++ (⟨#[46]⟩ : ByteArray)) ++ t110) ++ (⟨#[46]⟩ : ByteArray)) ++ t111) ++ (⟨#[47]⟩ : ByteArray)) ++ t112)) else (none))) else (none)) else (none))) else (none)) else (none))) else (none)) else (none))) else (none)))) else ((xx.f k a0_1).bind fun t113 => (if 1 + t113.size ≤ 9223372036854775807 then (some ((⟨#[64]⟩ : ByteArray) ++ t113)) else (none))))))))) = some r := h
 clear h
 by_cases c2 : a0_0 = 1
 ·rw [if_pos c2] at H
  have c2b0 : (a0_0 == 1) = true := beq_iff_eq.mpr c2
  have c2b1 : (a0_0 != 1) = false := bne_eq_false_iff_eq.mpr c2
  clear c2
  by_cases c3 : a0_1 = 1
  ·rw [if_pos c3] at H
   have c3b0 : (a0_1 == 1) = true := beq_iff_eq.mpr c3
   have c3b1 : (a0_1 != 1) = false := bne_eq_false_iff_eq.mpr c3
   clear c3
   obtain rfl := Option.some.inj H
   go_enter Tryz.func22,Tryz.ntmps22
   go_wp2_with (first | ((with_reducible refine gate_dst (N := 1) rfl ?_);refine box_event ?hg (N := 1) ?hd (cs := #[.int .i64 a0_0,.int .i64 a0_1,.string a0_2,.string a0_3]) (t := 28) ?hr ?_;(case hd => rfl);(case hg => rfl);(case hr => first | (go_simp;done) | (go_simp;rfl));intro gb101 hg w4 hbox hb;have n0_ := qq.mk (zv (by repeat (first | (with_reducible first | exact HB.out | apply qj | apply qz | apply qk) | exact HB.out)) hb);have n1_ := qq.mk (hbox);have n2_ := qq.mk ((by rw [hg];exact (zw (by repeat (first | (with_reducible first | exact HB.out | apply qj | apply qz | apply qk) | exact HB.out))) : w.heap.size ≤ gb101));have n3_ := qq.mk ((by rw [hg];exact (zw (by repeat (first | (with_reducible first | exact HB.out | apply qj | apply qz | apply qk) | exact HB.out))) : w.heap.size ≤ gb101));clear HB;have HB := n0_;have BK101 := n1_;have GW101 := n2_;have GE101 := n3_;clear n0_ n1_ n2_ n3_;clear hb hbox hg;have hcz5_0 : w4.cell? ⟨gb101,0,none⟩ = some (.int .i64 a0_0) := (qw BK101.out 0).trans rfl;have hcz5_1 : w4.cell? ⟨gb101,1,none⟩ = some (.int .i64 a0_1) := (qw BK101.out 1).trans rfl;have hcz5_2 : w4.cell? ⟨gb101,2,none⟩ = some (.string a0_2) := (qw BK101.out 2).trans rfl;have hcz5_3 : w4.cell? ⟨gb101,3,none⟩ = some (.string a0_3) := (qw BK101.out 3).trans rfl;have hfz5_0 := qv BK101.out 0;have hfz5_1 := qv BK101.out 1;have hfz5_2 := qv BK101.out 2;have hfz5_3 := qv BK101.out 3))
   go_ret
   exact ⟨by first | rfl | (simp [*,jk,jj] <;> rfl),by repeat (first | (with_reducible first | exact HB.out | apply qj | apply qz | apply qk | refine qx ?_ GE101.out) | exact HB.out)⟩
  ·rw [if_neg c3] at H
   have c3b0 : (a0_1 == 1) = false := beq_eq_false_iff_ne.mpr c3
   have c3b1 : (a0_1 != 1) = true := bne_iff_ne.mpr c3
   obtain rfl := Option.some.inj H
   go_enter Tryz.func22,Tryz.ntmps22
   go_wp2_with (first | ((with_reducible refine gate_dst (N := 1) rfl ?_);refine box_event ?hg (N := 1) ?hd (cs := #[.int .i64 a0_0,.int .i64 a0_1,.string a0_2,.string a0_3]) (t := 28) ?hr ?_;(case hd => rfl);(case hg => rfl);(case hr => first | (go_simp;done) | (go_simp;rfl));intro gb101 hg w6 hbox hb;have n0_ := qq.mk (zv (by repeat (first | (with_reducible first | exact HB.out | apply qj | apply qz | apply qk) | exact HB.out)) hb);have n1_ := qq.mk (hbox);have n2_ := qq.mk ((by rw [hg];exact (zw (by repeat (first | (with_reducible first | exact HB.out | apply qj | apply qz | apply qk) | exact HB.out))) : w.heap.size ≤ gb101));have n3_ := qq.mk ((by rw [hg];exact (zw (by repeat (first | (with_reducible first | exact HB.out | apply qj | apply qz | apply qk) | exact HB.out))) : w.heap.size ≤ gb101));clear HB;have HB := n0_;have BK101 := n1_;have GW101 := n2_;have GE101 := n3_;clear n0_ n1_ n2_ n3_;clear hb hbox hg;have hcz7_0 : w6.cell? ⟨gb101,0,none⟩ = some (.int .i64 a0_0) := (qw BK101.out 0).trans rfl;have hcz7_1 : w6.cell? ⟨gb101,1,none⟩ = some (.int .i64 a0_1) := (qw BK101.out 1).trans rfl;have hcz7_2 : w6.cell? ⟨gb101,2,none⟩ = some (.string a0_2) := (qw BK101.out 2).trans rfl;have hcz7_3 : w6.cell? ⟨gb101,3,none⟩ = some (.string a0_3) := (qw BK101.out 3).trans rfl;have hfz7_0 := qv BK101.out 0;have hfz7_1 := qv BK101.out 1;have hfz7_2 := qv BK101.out 2;have hfz7_3 := qv BK101.out 3))
   go_ret
   exact ⟨by first | rfl | (simp [*,jk,jj] <;> rfl),by repeat (first | (with_reducible first | exact HB.out | apply qj | apply qz | apply qk | refine qx ?_ GE101.out) | exact HB.out)⟩
 ·rw [if_neg c2] at H
  have c2b0 : (a0_0 == 1) = false := beq_eq_false_iff_ne.mpr c2
  have c2b1 : (a0_0 != 1) = true := bne_iff_ne.mpr c2
  by_cases c8 : a0_0 = 2
  ·rw [if_pos c8] at H
   have c8b0 : (a0_0 == 2) = true := beq_iff_eq.mpr c8
   have c8b1 : (a0_0 != 2) = false := bne_eq_false_iff_eq.mpr c8
   clear c8
   replace H := Option.bind_eq_some_iff.mp H
   obtain ⟨t102,A90,H⟩ := H
   replace H : (some t102) = some r := H
   have A9 := qq.mk A90
   clear A90
   obtain rfl := Option.some.inj H
   go_enter Tryz.func22,Tryz.ntmps22
   go_wp2_with (first | ((with_reducible refine gate_dst (N := 1) rfl ?_);refine box_event ?hg (N := 1) ?hd (cs := #[.int .i64 a0_0,.int .i64 a0_1,.string a0_2,.string a0_3]) (t := 28) ?hr ?_;(case hd => rfl);(case hg => rfl);(case hr => first | (go_simp;done) | (go_simp;rfl));intro gb101 hg w10 hbox hb;have n0_ := qq.mk (zv (by repeat (first | (with_reducible first | exact HB.out | apply qj | apply qz | apply qk) | exact HB.out)) hb);have n1_ := qq.mk (hbox);have n2_ := qq.mk ((by rw [hg];exact (zw (by repeat (first | (with_reducible first | exact HB.out | apply qj | apply qz | apply qk) | exact HB.out))) : w.heap.size ≤ gb101));have n3_ := qq.mk ((by rw [hg];exact (zw (by repeat (first | (with_reducible first | exact HB.out | apply qj | apply qz | apply qk) | exact HB.out))) : w.heap.size ≤ gb101));clear HB;have HB := n0_;have BK101 := n1_;have GW101 := n2_;have GE101 := n3_;clear n0_ n1_ n2_ n3_;clear hb hbox hg;have hcz11_0 : w10.cell? ⟨gb101,0,none⟩ = some (.int .i64 a0_0) := (qw BK101.out 0).trans rfl;have hcz11_1 : w10.cell? ⟨gb101,1,none⟩ = some (.int .i64 a0_1) := (qw BK101.out 1).trans rfl;have hcz11_2 : w10.cell? ⟨gb101,2,none⟩ = some (.string a0_2) := (qw BK101.out 2).trans rfl;have hcz11_3 : w10.cell? ⟨gb101,3,none⟩ = some (.string a0_3) := (qw BK101.out 3).trans rfl;have hfz11_0 := qv BK101.out 0;have hfz11_1 := qv BK101.out 1;have hfz11_2 := qv BK101.out 2;have hfz11_3 := qv BK101.out 3) | ((with_reducible refine jv (f := 47) rfl ?_);refine goesL_ (some 17) rfl rfl Tryz.func47 (by kernel_rfl) rfl #[.int .i64 a0_1] rfl (by (try simp only [List.map_toArray,List.map_cons,List.map_nil]);first | done | rfl | (simp only [List.length_drop,List.length_take];rfl)) ?_;(with_reducible refine (xx.calls k a0_1 t102 _ A9.out).mono ?_);rintro e w12 ⟨rfl,hb⟩;refine ⟨_,rfl,?_⟩;have n0_ := qq.mk (jx (g := gb101) (o := .cells #[.int .i64 a0_0,.int .i64 a0_1,.string a0_2,.string a0_3] 28 (0,0)) (by (with_reducible repeat (first | refine zz ?_ _ | refine zj ?_ | refine zq ?_ _));exact BK101.out) hb);have n1_ := qq.mk (zv (by repeat (first | (with_reducible first | exact HB.out | apply qj | apply qz | apply qk | refine qx ?_ GE101.out) | exact HB.out)) hb);clear BK101;clear HB;have BK101 := n0_;have HB := n1_;clear n0_ n1_;(try clear hb);(try clear hb2);(try clear hk);(try clear hi)))
   go_ret
   exact ⟨by first | rfl | (simp [*,jk,jj] <;> rfl),by repeat (first | (with_reducible first | exact HB.out | apply qj | apply qz | apply qk | refine qx ?_ GE101.out) | exact HB.out)⟩
  ·rw [if_neg c8] at H
   have c8b0 : (a0_0 == 2) = false := beq_eq_false_iff_ne.mpr c8
   have c8b1 : (a0_0 != 2) = true := bne_iff_ne.mpr c8
   by_cases c13 : a0_0 = 3
   ·rw [if_pos c13] at H
    have c13b0 : (a0_0 == 3) = true := beq_iff_eq.mpr c13
    have c13b1 : (a0_0 != 3) = false := bne_eq_false_iff_eq.mpr c13
    clear c13
    replace H := Option.bind_eq_some_iff.mp H
    obtain ⟨t103,A140,H⟩ := H
    replace H : (some t103) = some r := H
    have A14 := qq.mk A140
    clear A140
    obtain rfl := Option.some.inj H
    go_enter Tryz.func22,Tryz.ntmps22
    go_wp2_with (first | ((with_reducible refine gate_dst (N := 1) rfl ?_);refine box_event ?hg (N := 1) ?hd (cs := #[.int .i64 a0_0,.int .i64 a0_1,.string a0_2,.string a0_3]) (t := 28) ?hr ?_;(case hd => rfl);(case hg => rfl);(case hr => first | (go_simp;done) | (go_simp;rfl));intro gb101 hg w15 hbox hb;have n0_ := qq.mk (zv (by repeat (first | (with_reducible first | exact HB.out | apply qj | apply qz | apply qk) | exact HB.out)) hb);have n1_ := qq.mk (hbox);have n2_ := qq.mk ((by rw [hg];exact (zw (by repeat (first | (with_reducible first | exact HB.out | apply qj | apply qz | apply qk) | exact HB.out))) : w.heap.size ≤ gb101));have n3_ := qq.mk ((by rw [hg];exact (zw (by repeat (first | (with_reducible first | exact HB.out | apply qj | apply qz | apply qk) | exact HB.out))) : w.heap.size ≤ gb101));clear HB;have HB := n0_;have BK101 := n1_;have GW101 := n2_;have GE101 := n3_;clear n0_ n1_ n2_ n3_;clear hb hbox hg;have hcz16_0 : w15.cell? ⟨gb101,0,none⟩ = some (.int .i64 a0_0) := (qw BK101.out 0).trans rfl;have hcz16_1 : w15.cell? ⟨gb101,1,none⟩ = some (.int .i64 a0_1) := (qw BK101.out 1).trans rfl;have hcz16_2 : w15.cell? ⟨gb101,2,none⟩ = some (.string a0_2) := (qw BK101.out 2).trans rfl;have hcz16_3 : w15.cell? ⟨gb101,3,none⟩ = some (.string a0_3) := (qw BK101.out 3).trans rfl;have hfz16_0 := qv BK101.out 0;have hfz16_1 := qv BK101.out 1;have hfz16_2 := qv BK101.out 2;have hfz16_3 := qv BK101.out 3) | ((with_reducible refine jv (f := 48) rfl ?_);refine goesL_ (some 22) rfl rfl Tryz.func48 (by kernel_rfl) rfl #[.string a0_2] rfl (by (try simp only [List.map_toArray,List.map_cons,List.map_nil]);first | done | rfl | (simp only [List.length_drop,List.length_take];rfl)) ?_;(with_reducible refine (qqj.calls k a0_2 t103 _ A14.out).mono ?_);rintro e w17 ⟨rfl,hb⟩;refine ⟨_,rfl,?_⟩;have n0_ := qq.mk (jx (g := gb101) (o := .cells #[.int .i64 a0_0,.int .i64 a0_1,.string a0_2,.string a0_3] 28 (0,0)) (by (with_reducible repeat (first | refine zz ?_ _ | refine zj ?_ | refine zq ?_ _));exact BK101.out) hb);have n1_ := qq.mk (zv (by repeat (first | (with_reducible first | exact HB.out | apply qj | apply qz | apply qk | refine qx ?_ GE101.out) | exact HB.out)) hb);clear BK101;clear HB;have BK101 := n0_;have HB := n1_;clear n0_ n1_;(try clear hb);(try clear hb2);(try clear hk);(try clear hi)))
    go_ret
    exact ⟨by first | rfl | (simp [*,jk,jj] <;> rfl),by repeat (first | (with_reducible first | exact HB.out | apply qj | apply qz | apply qk | refine qx ?_ GE101.out) | exact HB.out)⟩
   ·rw [if_neg c13] at H
    have c13b0 : (a0_0 == 3) = false := beq_eq_false_iff_ne.mpr c13
    have c13b1 : (a0_0 != 3) = true := bne_iff_ne.mpr c13
    by_cases c18 : a0_0 = 4
    ·rw [if_pos c18] at H
     have c18b0 : (a0_0 == 4) = true := beq_iff_eq.mpr c18
     have c18b1 : (a0_0 != 4) = false := bne_eq_false_iff_eq.mpr c18
     clear c18
     by_cases c19 : a0_3.size + 2 ≤ 9223372036854775807
     ·rw [if_pos c19] at H
      have c19b0 := eq_true c19
      have c19b1 : decide (a0_3.size + 2 ≤ 9223372036854775807) = true := decide_eq_true c19
      try have c19b2 : (9223372036854775807 < a0_3.size + 2) = False := eq_false (Nat.not_lt.2 c19)
      replace H := Option.bind_eq_some_iff.mp H
      obtain ⟨t104,A200,H⟩ := H
      replace H : (if (a0_3 ++ (⟨#[58,58]⟩ : ByteArray)).size + t104.size ≤ 9223372036854775807 then (some ((a0_3 ++ (⟨#[58,58]⟩ : ByteArray)) ++ t104)) else (none)) = some r := H
      have A20 := qq.mk A200
      clear A200
      by_cases c21 : (a0_3 ++ (⟨#[58,58]⟩ : ByteArray)).size + t104.size ≤ 9223372036854775807
      ·rw [if_pos c21] at H
       have c21b0 := eq_true c21
       have c21b1 : decide ((a0_3 ++ (⟨#[58,58]⟩ : ByteArray)).size + t104.size ≤ 9223372036854775807) = true := decide_eq_true c21
       try have c21b2 : (9223372036854775807 < (a0_3 ++ (⟨#[58,58]⟩ : ByteArray)).size + t104.size) = False := eq_false (Nat.not_lt.2 c21)
       try (have c21b9 := c21b2;simp only [ByteArray.size_append,show (⟨#[58,58]⟩ : ByteArray).size = 2 from rfl] at c21b9)
       obtain rfl := Option.some.inj H
       go_enter Tryz.func22,Tryz.ntmps22
       try go_wp2_with (first | ((with_reducible refine gate_dst (N := 1) rfl ?_);refine box_event ?hg (N := 1) ?hd (cs := #[.int .i64 a0_0,.int .i64 a0_1,.string a0_2,.string a0_3]) (t := 28) ?hr ?_;(case hd => rfl);(case hg => rfl);(case hr => first | (go_simp;done) | (go_simp;rfl));intro gb101 hg w22 hbox hb;have n0_ := qq.mk (zv (by repeat (first | (with_reducible first | exact HB.out | apply qj | apply qz | apply qk) | exact HB.out)) hb);have n1_ := qq.mk (hbox);have n2_ := qq.mk ((by rw [hg];exact (zw (by repeat (first | (with_reducible first | exact HB.out | apply qj | apply qz | apply qk) | exact HB.out))) : w.heap.size ≤ gb101));have n3_ := qq.mk ((by rw [hg];exact (zw (by repeat (first | (with_reducible first | exact HB.out | apply qj | apply qz | apply qk) | exact HB.out))) : w.heap.size ≤ gb101));clear HB;have HB := n0_;have BK101 := n1_;have GW101 := n2_;have GE101 := n3_;clear n0_ n1_ n2_ n3_;clear hb hbox hg;have hcz23_0 : w22.cell? ⟨gb101,0,none⟩ = some (.int .i64 a0_0) := (qw BK101.out 0).trans rfl;have hcz23_1 : w22.cell? ⟨gb101,1,none⟩ = some (.int .i64 a0_1) := (qw BK101.out 1).trans rfl;have hcz23_2 : w22.cell? ⟨gb101,2,none⟩ = some (.string a0_2) := (qw BK101.out 2).trans rfl;have hcz23_3 : w22.cell? ⟨gb101,3,none⟩ = some (.string a0_3) := (qw BK101.out 3).trans rfl;have hfz23_0 := qv BK101.out 0;have hfz23_1 := qv BK101.out 1;have hfz23_2 := qv BK101.out 2;have hfz23_3 := qv BK101.out 3))
       have n0_ := qq.mk (zj BK101.out)
       have n1_ := qq.mk (qk HB.out)
       clear BK101
       clear HB
       have BK101 := n0_
       have HB := n1_
       clear n0_ n1_
       refine start_ (n := 8) (S := fun w' => w'.cell? ⟨gb101,0,none⟩ = some (.int .i64 a0_0) ∧ w'.cell? ⟨gb101,1,none⟩ = some (.int .i64 a0_1) ∧ w'.cell? ⟨gb101,2,none⟩ = some (.string a0_2) ∧ w'.cell? ⟨gb101,3,none⟩ = some (.string a0_3)) (ds := []) #[false,false,false,false,false,false,false,false] (by kernel_rfl) rfl rfl ⟨(qw BK101.out 0).trans rfl,(qw BK101.out 1).trans rfl,(qw BK101.out 2).trans rfl,(qw BK101.out 3).trans rfl⟩ (fun hHeld => ?_);refine with_tabW qqv.tab11 qqv.bits11 (fun HT_ HW_ => ?_)
       generalize w22.drew = w24 at BK101 HB hHeld ⊢
       refine pure_ (i := 0) (N := some 25) (v := ?_) (a' := ?_) #[true,false,false,false,false,false,false,false] rfl rfl (any_of HT_.out (by kernel_rfl)) (fun _ _ _ h => h) (Or.inl ⟨by rfl,?_⟩) ?_ ?_
       rotate_left
       ·intro w'
        go_simp
        with_reducible rfl
       rotate_left
       ·simp only [Act.put,List.setIfInBounds_toArray,List.set_cons_zero,List.set_cons_succ,i64_w,i32_w]
        rfl
       refine pure_ (i := 3) (N := some 28) (v := ?_) (a' := ?_) #[true,false,false,true,false,false,false,false] rfl rfl (any_of HT_.out (by kernel_rfl)) (fun _ _ _ h => h) (Or.inl ⟨by rfl,?_⟩) ?_ ?_
       rotate_left
       ·intro w'
        go_simp
        with_reducible rfl
       rotate_left
       ·simp only [Act.put,List.setIfInBounds_toArray,List.set_cons_zero,List.set_cons_succ,i64_w,i32_w]
        rfl
       refine take_ (i := 1) (N := some 26) (v := ?_) (a' := ?_) #[true,true,false,true,false,false,false,false] rfl rfl (take_ofW HT_.out HW_.out (by kernel_rfl)) (fun _ _ _ h => h) (Or.inl ⟨by rfl,?_⟩) hHeld ?_ ?_
       rotate_left
       ·rintro w' ⟨s0,s1,s2,s3⟩
        go_simp
        with_reducible rfl
       rotate_left
       ·simp only [Act.put,List.setIfInBounds_toArray,List.set_cons_zero,List.set_cons_succ,i64_w,i32_w]
        rfl
       refine pure_ (i := 2) (N := some 27) (v := ?_) (a' := ?_) #[true,true,true,true,false,false,false,false] rfl rfl (any_of HT_.out (by kernel_rfl)) (fun _ _ _ h => h) (Or.inl ⟨by rfl,?_⟩) ?_ ?_
       rotate_left
       ·intro w'
        go_simp
        with_reducible rfl
       rotate_left
       ·simp only [Act.put,List.setIfInBounds_toArray,List.set_cons_zero,List.set_cons_succ,i64_w,i32_w]
        rfl
       refine take_ (i := 4) (N := some 29) (v := ?_) (a' := ?_) #[true,true,true,true,true,false,false,false] rfl rfl (take_ofW HT_.out HW_.out (by kernel_rfl)) (fun _ _ _ h => h) (Or.inl ⟨by rfl,?_⟩) hHeld ?_ ?_
       rotate_left
       ·rintro w' ⟨s0,s1,s2,s3⟩
        go_simp
        with_reducible rfl
       rotate_left
       ·simp only [Act.put,List.setIfInBounds_toArray,List.set_cons_zero,List.set_cons_succ,i64_w,i32_w]
        rfl
       refine one_ (i := 5) (N := some 30) #[true,true,true,true,true,true,false,false] rfl rfl (one_of HT_.out (by kernel_rfl)) (by decide) (fun K hK => ?_)
       refine goes_ Tryz.func48 (by kernel_rfl) rfl #[.string a0_2] (by rfl) rfl rfl (by (try simp only [List.map_toArray,List.map_cons,List.map_nil]);first | done | rfl | (simp only [List.length_drop,List.length_take];rfl)) ?_
       with_reducible refine (qqj.calls k a0_2 t104 _ A20.out).mono ?_
       rintro e w25 ⟨rfl,hb⟩
       refine ⟨_,rfl,?_⟩
       have n0_ := qq.mk (jx (g := gb101) (o := .cells #[.int .i64 a0_0,.int .i64 a0_1,.string a0_2,.string a0_3] 28 (0,0)) (by (with_reducible repeat (first | refine zz ?_ _ | refine zj ?_ | refine zq ?_ _));exact BK101.out) hb)
       have n1_ := qq.mk (zv (by repeat (first | (with_reducible first | exact HB.out | apply qj | apply qz | apply qk | refine qx ?_ GE101.out) | exact HB.out)) hb)
       clear BK101
       clear HB
       have BK101 := n0_
       have HB := n1_
       clear n0_ n1_
       (try clear hb)
       (try clear hb2)
       (try clear hk)
       (try clear hi)
       refine hK.out _ _ ⟨(qw BK101.out 0).trans rfl,(qw BK101.out 1).trans rfl,(qw BK101.out 2).trans rfl,(qw BK101.out 3).trans rfl⟩ (fun hHeld => ?_)
       clear hK K
       refine norm_ (a' := ?_) ?_ ?_
       rotate_left
       ·show Act.put _ (some 30) _ = _
        simp only [Act.put,List.setIfInBounds_toArray,List.set_cons_zero,List.set_cons_succ,i64_w,i32_w]
        rfl
       refine pure_ (i := 6) (N := some 31) (v := ?_) (a' := ?_) #[true,true,true,true,true,true,true,false] rfl rfl (any_of HT_.out (by kernel_rfl)) (fun _ _ _ h => h) (Or.inl ⟨by rfl,?_⟩) ?_ ?_
       rotate_left
       ·intro w'
        go_simp
        with_reducible rfl
       rotate_left
       ·simp only [Act.put,List.setIfInBounds_toArray,List.set_cons_zero,List.set_cons_succ,i64_w,i32_w]
        rfl
       refine pure_ (i := 7) (N := some 2) (v := ?_) (a' := ?_) #[true,true,true,true,true,true,true,true] rfl rfl (any_of HT_.out (by kernel_rfl)) (fun _ _ _ h => h) (Or.inl ⟨by rfl,?_⟩) ?_ ?_
       rotate_left
       ·intro w'
        go_simp
        with_reducible rfl
       rotate_left
       ·simp only [Act.put,List.setIfInBounds_toArray,List.set_cons_zero,List.set_cons_succ,i64_w,i32_w]
        rfl
       refine done_ (done_of HT_.out (by kernel_rfl)) ?_
       try go_wp2
       go_ret
       exact ⟨by first | rfl | (simp [*,jk,jj] <;> rfl),by repeat (first | (with_reducible first | exact HB.out | apply qj | apply qz | apply qk | refine qx ?_ GE101.out) | exact HB.out)⟩
      ·rw [if_neg c21] at H
       exact absurd H (by simp)
     ·rw [if_neg c19] at H
      exact absurd H (by simp)
    ·rw [if_neg c18] at H
     have c18b0 : (a0_0 == 4) = false := beq_eq_false_iff_ne.mpr c18
     have c18b1 : (a0_0 != 4) = true := bne_iff_ne.mpr c18
     by_cases c26 : a0_0 = 5
     ·rw [if_pos c26] at H
      have c26b0 : (a0_0 == 5) = true := beq_iff_eq.mpr c26
      have c26b1 : (a0_0 != 5) = false := bne_eq_false_iff_eq.mpr c26
      clear c26
      replace H := Option.bind_eq_some_iff.mp H
      obtain ⟨t105,A270,H⟩ := H
      replace H : (qqv.l0 k t105 a0_0 a0_1 a0_2 a0_3) = some r := H
      have A27 := qq.mk A270
      clear A270
      have H' := qq.mk H
      clear H
      go_enter Tryz.func22,Tryz.ntmps22
      go_wp2_with (first | ((with_reducible refine gate_dst (N := 1) rfl ?_);refine box_event ?hg (N := 1) ?hd (cs := #[.int .i64 a0_0,.int .i64 a0_1,.string a0_2,.string a0_3]) (t := 28) ?hr ?_;(case hd => rfl);(case hg => rfl);(case hr => first | (go_simp;done) | (go_simp;rfl));intro gb101 hg w28 hbox hb;have n0_ := qq.mk (zv (by repeat (first | (with_reducible first | exact HB.out | apply qj | apply qz | apply qk) | exact HB.out)) hb);have n1_ := qq.mk (hbox);have n2_ := qq.mk ((by rw [hg];exact (zw (by repeat (first | (with_reducible first | exact HB.out | apply qj | apply qz | apply qk) | exact HB.out))) : w.heap.size ≤ gb101));have n3_ := qq.mk ((by rw [hg];exact (zw (by repeat (first | (with_reducible first | exact HB.out | apply qj | apply qz | apply qk) | exact HB.out))) : w.heap.size ≤ gb101));clear HB;have HB := n0_;have BK101 := n1_;have GW101 := n2_;have GE101 := n3_;clear n0_ n1_ n2_ n3_;clear hb hbox hg;have hcz29_0 : w28.cell? ⟨gb101,0,none⟩ = some (.int .i64 a0_0) := (qw BK101.out 0).trans rfl;have hcz29_1 : w28.cell? ⟨gb101,1,none⟩ = some (.int .i64 a0_1) := (qw BK101.out 1).trans rfl;have hcz29_2 : w28.cell? ⟨gb101,2,none⟩ = some (.string a0_2) := (qw BK101.out 2).trans rfl;have hcz29_3 : w28.cell? ⟨gb101,3,none⟩ = some (.string a0_3) := (qw BK101.out 3).trans rfl;have hfz29_0 := qv BK101.out 0;have hfz29_1 := qv BK101.out 1;have hfz29_2 := qv BK101.out 2;have hfz29_3 := qv BK101.out 3) | ((with_reducible refine jv (f := 49) rfl ?_);refine goesL_ (some 36) rfl rfl Tryz.func49 (by kernel_rfl) rfl #[.int .i64 a0_1] rfl (by (try simp only [List.map_toArray,List.map_cons,List.map_nil]);first | done | rfl | (simp only [List.length_drop,List.length_take];rfl)) ?_;(with_reducible refine (qqk.calls k a0_1 t105 _ A27.out).mono ?_);rintro e w30 ⟨rfl,hb⟩;refine ⟨_,rfl,?_⟩;have n0_ := qq.mk (jx (g := gb101) (o := .cells #[.int .i64 a0_0,.int .i64 a0_1,.string a0_2,.string a0_3] 28 (0,0)) (by (with_reducible repeat (first | refine zz ?_ _ | refine zj ?_ | refine zq ?_ _));exact BK101.out) hb);have n1_ := qq.mk (zv (by repeat (first | (with_reducible first | exact HB.out | apply qj | apply qz | apply qk | refine qx ?_ GE101.out) | exact HB.out)) hb);clear BK101;clear HB;have BK101 := n0_;have HB := n1_;clear n0_ n1_;(try clear hb);(try clear hb2);(try clear hk);(try clear hi)))
      go_loopg [3] k (fun kq v3 w' => ∃ (x3_1 : ByteArray),v3 = .string x3_1 ∧ qq (qqv.l0 kq x3_1 a0_0 a0_1 a0_2 a0_3 = some r) ∧ qq (kq ≤ k) ∧ qq (w'.heap[gb101]? = some (.cells #[.int .i64 a0_0,.int .i64 a0_1,.string a0_2,.string a0_3] 28 (0,0))) ∧ qq (Below w.heap.size w w'))
      case atStart => exact ⟨(t105),(by first | rfl | (simp;done) | (simp [*];done)),H',⟨Nat.le_refl _⟩,⟨by (with_reducible repeat (first | refine zz ?_ _ | refine zj ?_ | refine zq ?_ _));exact BK101.out⟩,⟨by repeat (first | (with_reducible first | exact HB.out | apply qj | apply qz | apply qk | refine qx ?_ GE101.out) | exact HB.out)⟩⟩
      case round =>
       clear H'
       try clear c1
       try clear c2
       try clear c2b0
       try clear c2b1
       try clear p2
       try clear c3
       try clear c3b0
       try clear c3b1
       try clear c4
       try clear p6
       try clear c8
       try clear c8b0
       try clear c8b1
       try clear c13
       try clear c13b0
       try clear c13b1
       try clear c18
       try clear c18b0
       try clear c18b1
       try clear c19
       try clear c19b0
       try clear c19b1
       try clear c19b2
       try clear c21
       try clear c21b0
       try clear c21b1
       try clear c21b2
       try clear c22
       try clear c26
       try clear c26b0
       try clear c26b1
       try clear hcz11_0
       try clear hcz11_1
       try clear hcz11_2
       try clear hcz11_3
       try clear hcz16_0
       try clear hcz16_1
       try clear hcz16_2
       try clear hcz16_3
       try clear hcz23_0
       try clear hcz23_1
       try clear hcz23_2
       try clear hcz23_3
       try clear hcz29_0
       try clear hcz29_1
       try clear hcz29_2
       try clear hcz29_3
       try clear hcz5_0
       try clear hcz5_1
       try clear hcz5_2
       try clear hcz5_3
       try clear hcz7_0
       try clear hcz7_1
       try clear hcz7_2
       try clear hcz7_3
       try clear hfz11_0
       try clear hfz11_1
       try clear hfz11_2
       try clear hfz11_3
       try clear hfz16_0
       try clear hfz16_1
       try clear hfz16_2
       try clear hfz16_3
       try clear hfz23_0
       try clear hfz23_1
       try clear hfz23_2
       try clear hfz23_3
       try clear hfz29_0
       try clear hfz29_1
       try clear hfz29_2
       try clear hfz29_3
       try clear hfz5_0
       try clear hfz5_1
       try clear hfz5_2
       try clear hfz5_3
       try clear hfz7_0
       try clear hfz7_1
       try clear hfz7_2
       try clear hfz7_3
       obtain ⟨x3_1,rfl,HA,HK1,BK101,HB⟩ := hrel
       cases gk with
       | zero => exact absurd HA.out (by simp [qqv.l0])
       | succ k1 =>
        have H := HA.out
        clear HA
        simp only [qqv.l0] at H
        by_cases c31 : (x3_1.size : Int) < 5
        ·rw [if_pos c31] at H
         have c31b0 : decide ((x3_1.size : Int) < 5) = true := decide_eq_true c31
         have c31b1 : decide (x3_1.size < 5) = true := decide_eq_true (by omega)
         clear c31
         by_cases c32 : 1 + x3_1.size ≤ 9223372036854775807
         ·rw [if_pos c32] at H
          have c32b0 := eq_true c32
          have c32b1 : decide (1 + x3_1.size ≤ 9223372036854775807) = true := decide_eq_true c32
          try have c32b2 : (9223372036854775807 < 1 + x3_1.size) = False := eq_false (Nat.not_lt.2 c32)
          have H' := qq.mk H
          clear H
          go_wp2
          go_roundg k1
          case measure => have := HK1.out;omega
          case rel => exact ⟨((⟨#[48]⟩ : ByteArray) ++ x3_1),(by first | rfl | (simp;done) | (simp [*];done)),H',⟨by have := HK1.out;omega⟩,⟨by (with_reducible repeat (first | refine zz ?_ _ | refine zj ?_ | refine zq ?_ _));exact BK101.out⟩,⟨by repeat (first | (with_reducible first | exact HB.out | apply qj | apply qz | apply qk | refine qx ?_ GE101.out) | exact HB.out)⟩⟩
         ·rw [if_neg c32] at H
          exact absurd H (by simp)
        ·rw [if_neg c31] at H
         have c31b0 : decide ((x3_1.size : Int) < 5) = false := decide_eq_false c31
         have c31b1 : decide (x3_1.size < 5) = false := decide_eq_false (by omega)
         clear c31
         obtain ⟨ji33,hji33⟩ : ∃ j_ : Int,(wrap64 ((x3_1.size : Int) - 4)) = j_ := ⟨_,rfl⟩
         replace H : (if 0 ≤ (ji33) then (if (ji33) ≤ (x3_1.size : Int) then (if (x3_1.extract 0 ((ji33) : Int).toNat).size + 1 ≤ 9223372036854775807 then (if ((x3_1.extract 0 ((ji33) : Int).toNat) ++ (⟨#[46]⟩ : ByteArray)).size + (x3_1.extract ((ji33) : Int).toNat x3_1.size).size ≤ 9223372036854775807 then (if a0_1 < 0 then (if 1 + (((x3_1.extract 0 ((ji33) : Int).toNat) ++ (⟨#[46]⟩ : ByteArray)) ++ (x3_1.extract ((ji33) : Int).toNat x3_1.size)).size ≤ 9223372036854775807 then (some ((⟨#[45]⟩ : ByteArray) ++ (((x3_1.extract 0 ((ji33) : Int).toNat) ++ (⟨#[46]⟩ : ByteArray)) ++ (x3_1.extract ((ji33) : Int).toNat x3_1.size)))) else (none)) else (some (((x3_1.extract 0 ((ji33) : Int).toNat) ++ (⟨#[46]⟩ : ByteArray)) ++ (x3_1.extract ((ji33) : Int).toNat x3_1.size)))) else (none)) else (none)) else (none)) else (none)) = some r := by first | (rw [hji33] at H;exact H) | (simp only [hji33] at H ⊢;exact H)
         have hji33w : (IntKind.i64.wrap ((x3_1.size : Int) - 4)) = ji33 := (i64_w _).trans hji33
         by_cases c34 : 0 ≤ (ji33)
         ·rw [if_pos c34] at H
          have c34b0 := eq_true c34
          have c34b1 : decide (0 ≤ (ji33)) = true := decide_eq_true c34
          clear c34
          by_cases c35 : (ji33) ≤ (x3_1.size : Int)
          ·rw [if_pos c35] at H
           have c35b0 := eq_true c35
           have c35b1 : decide ((ji33) ≤ (x3_1.size : Int)) = true := decide_eq_true c35
           clear c35
           by_cases c36 : (x3_1.extract 0 ((ji33) : Int).toNat).size + 1 ≤ 9223372036854775807
           ·rw [if_pos c36] at H
            have c36b0 := eq_true c36
            have c36b1 : decide ((x3_1.extract 0 ((ji33) : Int).toNat).size + 1 ≤ 9223372036854775807) = true := decide_eq_true c36
            try have c36b2 : (9223372036854775807 < (x3_1.extract 0 ((ji33) : Int).toNat).size + 1) = False := eq_false (Nat.not_lt.2 c36)
            have c36b5 : (9223372036854775807 < ji33.toNat + 1) = False := eq_false (by
             have e_ := c36
             have e1_ : (ji33 : Int).toNat ≤ x3_1.size := by
              have e2_ := of_eq_true c35b0
              clear hji33 hji33w
              omega
             simp only [ByteArray.size_append,ByteArray.size_extract,Nat.min_eq_left e1_,Nat.sub_zero,Nat.min_self,show (⟨#[46]⟩ : ByteArray).size = 1 from rfl,show (⟨#[47]⟩ : ByteArray).size = 1 from rfl] at e_
             exact Nat.not_lt.2 e_)
            have c37b0 := eq_true (of_decide_eq_true (by assumption) : 0 ≤ (ji33))
            have c38b0 := eq_true (of_decide_eq_true (by assumption) : (ji33) ≤ (x3_1.size : Int))
            by_cases c39 : ((x3_1.extract 0 ((ji33) : Int).toNat) ++ (⟨#[46]⟩ : ByteArray)).size + (x3_1.extract ((ji33) : Int).toNat x3_1.size).size ≤ 9223372036854775807
            ·rw [if_pos c39] at H
             have c39b0 := eq_true c39
             have c39b1 : decide (((x3_1.extract 0 ((ji33) : Int).toNat) ++ (⟨#[46]⟩ : ByteArray)).size + (x3_1.extract ((ji33) : Int).toNat x3_1.size).size ≤ 9223372036854775807) = true := decide_eq_true c39
             try have c39b2 : (9223372036854775807 < ((x3_1.extract 0 ((ji33) : Int).toNat) ++ (⟨#[46]⟩ : ByteArray)).size + (x3_1.extract ((ji33) : Int).toNat x3_1.size).size) = False := eq_false (Nat.not_lt.2 c39)
             have c39b5 : (9223372036854775807 < ji33.toNat + 1 + (x3_1.size - ji33.toNat)) = False := eq_false (by
              have e_ := c39
              have e1_ : (ji33 : Int).toNat ≤ x3_1.size := by
               have e2_ := of_eq_true c35b0
               clear hji33 hji33w
               omega
              simp only [ByteArray.size_append,ByteArray.size_extract,Nat.min_eq_left e1_,Nat.sub_zero,Nat.min_self,show (⟨#[46]⟩ : ByteArray).size = 1 from rfl,show (⟨#[47]⟩ : ByteArray).size = 1 from rfl] at e_
              exact Nat.not_lt.2 e_)
             try (have c39b9 := c39b2;simp only [ByteArray.size_append,show (⟨#[46]⟩ : ByteArray).size = 1 from rfl] at c39b9)
             by_cases c40 : a0_1 < 0
             ·rw [if_pos c40] at H
              have c40b0 : decide (a0_1 < 0) = true := decide_eq_true c40
              clear c40
              by_cases c41 : 1 + (((x3_1.extract 0 ((ji33) : Int).toNat) ++ (⟨#[46]⟩ : ByteArray)) ++ (x3_1.extract ((ji33) : Int).toNat x3_1.size)).size ≤ 9223372036854775807
              ·rw [if_pos c41] at H
               have c41b0 := eq_true c41
               have c41b1 : decide (1 + (((x3_1.extract 0 ((ji33) : Int).toNat) ++ (⟨#[46]⟩ : ByteArray)) ++ (x3_1.extract ((ji33) : Int).toNat x3_1.size)).size ≤ 9223372036854775807) = true := decide_eq_true c41
               try have c41b2 : (9223372036854775807 < 1 + (((x3_1.extract 0 ((ji33) : Int).toNat) ++ (⟨#[46]⟩ : ByteArray)) ++ (x3_1.extract ((ji33) : Int).toNat x3_1.size)).size) = False := eq_false (Nat.not_lt.2 c41)
               have c41b5 : (9223372036854775807 < 1 + (ji33.toNat + 1 + (x3_1.size - ji33.toNat))) = False := eq_false (by
                have e_ := c41
                have e1_ : (ji33 : Int).toNat ≤ x3_1.size := by
                 have e2_ := of_eq_true c35b0
                 clear hji33 hji33w
                 omega
                simp only [ByteArray.size_append,ByteArray.size_extract,Nat.min_eq_left e1_,Nat.sub_zero,Nat.min_self,show (⟨#[46]⟩ : ByteArray).size = 1 from rfl,show (⟨#[47]⟩ : ByteArray).size = 1 from rfl] at e_
                exact Nat.not_lt.2 e_)
               try (have c41b9 := c41b2;simp only [ByteArray.size_append,show (⟨#[46]⟩ : ByteArray).size = 1 from rfl] at c41b9)
               obtain rfl := Option.some.inj H
               try go_wp2
               go_quiet (fail)
               have n0_ := qq.mk (zz BK101.out nq)
               have n1_ := qq.mk (qz HB.out nq)
               clear BK101
               clear HB
               have BK101 := n0_
               have HB := n1_
               clear n0_ n1_
               generalize World.drewN wr nq = w42 at BK101 HB ⊢
               have hcz43_0 : w42.cell? ⟨gb101,0,none⟩ = some (.int .i64 a0_0) := (qw BK101.out 0).trans rfl
               have hcz43_1 : w42.cell? ⟨gb101,1,none⟩ = some (.int .i64 a0_1) := (qw BK101.out 1).trans rfl
               have hcz43_2 : w42.cell? ⟨gb101,2,none⟩ = some (.string a0_2) := (qw BK101.out 2).trans rfl
               have hcz43_3 : w42.cell? ⟨gb101,3,none⟩ = some (.string a0_3) := (qw BK101.out 3).trans rfl
               have hfz43_0 := qv BK101.out 0
               have hfz43_1 := qv BK101.out 1
               have hfz43_2 := qv BK101.out 2
               have hfz43_3 := qv BK101.out 3
               try go_wp2
               go_ret
               exact ⟨by first | rfl | (simp [jk,jj] <;> rfl) | (simp only [← hji33];first | rfl | (simp [jk,jj] <;> rfl)) | (simp [*,jk,jj] <;> rfl),by repeat (first | (with_reducible first | exact HB.out | apply qj | apply qz | apply qk | refine qx ?_ GE101.out) | exact HB.out)⟩
              ·rw [if_neg c41] at H
               exact absurd H (by simp)
             ·rw [if_neg c40] at H
              have c40b0 : decide (a0_1 < 0) = false := decide_eq_false c40
              clear c40
              obtain rfl := Option.some.inj H
              try go_wp2
              go_quiet (fail)
              have n0_ := qq.mk (zz BK101.out nq)
              have n1_ := qq.mk (qz HB.out nq)
              clear BK101
              clear HB
              have BK101 := n0_
              have HB := n1_
              clear n0_ n1_
              generalize World.drewN wr nq = w44 at BK101 HB ⊢
              have hcz45_0 : w44.cell? ⟨gb101,0,none⟩ = some (.int .i64 a0_0) := (qw BK101.out 0).trans rfl
              have hcz45_1 : w44.cell? ⟨gb101,1,none⟩ = some (.int .i64 a0_1) := (qw BK101.out 1).trans rfl
              have hcz45_2 : w44.cell? ⟨gb101,2,none⟩ = some (.string a0_2) := (qw BK101.out 2).trans rfl
              have hcz45_3 : w44.cell? ⟨gb101,3,none⟩ = some (.string a0_3) := (qw BK101.out 3).trans rfl
              have hfz45_0 := qv BK101.out 0
              have hfz45_1 := qv BK101.out 1
              have hfz45_2 := qv BK101.out 2
              have hfz45_3 := qv BK101.out 3
              try go_wp2
              go_ret
              exact ⟨by first | rfl | (simp [jk,jj] <;> rfl) | (simp only [← hji33];first | rfl | (simp [jk,jj] <;> rfl)) | (simp [*,jk,jj] <;> rfl),by repeat (first | (with_reducible first | exact HB.out | apply qj | apply qz | apply qk | refine qx ?_ GE101.out) | exact HB.out)⟩
            ·rw [if_neg c39] at H
             exact absurd H (by simp)
           ·rw [if_neg c36] at H
            exact absurd H (by simp)
          ·rw [if_neg c35] at H
           exact absurd H (by simp)
         ·rw [if_neg c34] at H
          exact absurd H (by simp)
     ·rw [if_neg c26] at H
      have c26b0 : (a0_0 == 5) = false := beq_eq_false_iff_ne.mpr c26
      have c26b1 : (a0_0 != 5) = true := bne_iff_ne.mpr c26
      by_cases c46 : a0_0 = 6
      ·rw [if_pos c46] at H
       have c46b0 : (a0_0 == 6) = true := beq_iff_eq.mpr c46
       have c46b1 : (a0_0 != 6) = false := bne_eq_false_iff_eq.mpr c46
       clear c46
       replace H := Option.bind_eq_some_iff.mp H
       obtain ⟨⟨t106,t107⟩,A470,H⟩ := H
       replace H : ((xx.f k (wrap64 (Int.tdiv t106 16777216))).bind fun t108 => (if t108.size + 1 ≤ 9223372036854775807 then ((xx.f k (Int.tmod (wrap64 (Int.tdiv t106 65536)) 256)).bind fun t109 => (if (t108 ++ (⟨#[46]⟩ : ByteArray)).size + t109.size ≤ 9223372036854775807 then (if ((t108 ++ (⟨#[46]⟩ : ByteArray)) ++ t109).size + 1 ≤ 9223372036854775807 then ((xx.f k (Int.tmod (wrap64 (Int.tdiv t106 256)) 256)).bind fun t110 => (if (((t108 ++ (⟨#[46]⟩ : ByteArray)) ++ t109) ++ (⟨#[46]⟩ : ByteArray)).size + t110.size ≤ 9223372036854775807 then (if ((((t108 ++ (⟨#[46]⟩ : ByteArray)) ++ t109) ++ (⟨#[46]⟩ : ByteArray)) ++ t110).size + 1 ≤ 9223372036854775807 then ((xx.f k (Int.tmod t106 256)).bind fun t111 => (if (((((t108 ++ (⟨#[46]⟩ : ByteArray)) ++ t109) ++ (⟨#[46]⟩ : ByteArray)) ++ t110) ++ (⟨#[46]⟩ : ByteArray)).size + t111.size ≤ 9223372036854775807 then (if ((((((t108 ++ (⟨#[46]⟩ : ByteArray)) ++ t109) ++ (⟨#[46]⟩ : ByteArray)) ++ t110) ++ (⟨#[46]⟩ : ByteArray)) ++ t111).size + 1 ≤ 9223372036854775807 then ((xx.f k (Int.tmod a0_1 64)).bind fun t112 => (if (((((((t108 ++ (⟨#[46]⟩ : ByteArray)) ++ t109) ++ (⟨#[46]⟩ : ByteArray)) ++ t110) ++ (⟨#[46]⟩ : ByteArray)) ++ t111) ++ (⟨#[47]⟩ : ByteArray)).size + t112.size ≤ 9223372036854775807 then (some ((((((((t108 ++ (⟨#[46]⟩ : ByteArray)) ++ t109) ++ (⟨#[46]⟩ : ByteArray)) ++ t110) ++ (⟨#[46]⟩ : ByteArray)) ++ t111) ++ (⟨#[47]⟩ : ByteArray)) ++ t112)) else (none))) else (none)) else (none))) else (none)) else (none))) else (none)) else (none))) else (none))) = some r := H
       have A47 := qq.mk A470
       clear A470
       replace H := Option.bind_eq_some_iff.mp H
       obtain ⟨t108,A480,H⟩ := H
       replace H : (if t108.size + 1 ≤ 9223372036854775807 then ((xx.f k (Int.tmod (wrap64 (Int.tdiv t106 65536)) 256)).bind fun t109 => (if (t108 ++ (⟨#[46]⟩ : ByteArray)).size + t109.size ≤ 9223372036854775807 then (if ((t108 ++ (⟨#[46]⟩ : ByteArray)) ++ t109).size + 1 ≤ 9223372036854775807 then ((xx.f k (Int.tmod (wrap64 (Int.tdiv t106 256)) 256)).bind fun t110 => (if (((t108 ++ (⟨#[46]⟩ : ByteArray)) ++ t109) ++ (⟨#[46]⟩ : ByteArray)).size + t110.size ≤ 9223372036854775807 then (if ((((t108 ++ (⟨#[46]⟩ : ByteArray)) ++ t109) ++ (⟨#[46]⟩ : ByteArray)) ++ t110).size + 1 ≤ 9223372036854775807 then ((xx.f k (Int.tmod t106 256)).bind fun t111 => (if (((((t108 ++ (⟨#[46]⟩ : ByteArray)) ++ t109) ++ (⟨#[46]⟩ : ByteArray)) ++ t110) ++ (⟨#[46]⟩ : ByteArray)).size + t111.size ≤ 9223372036854775807 then (if ((((((t108 ++ (⟨#[46]⟩ : ByteArray)) ++ t109) ++ (⟨#[46]⟩ : ByteArray)) ++ t110) ++ (⟨#[46]⟩ : ByteArray)) ++ t111).size + 1 ≤ 9223372036854775807 then ((xx.f k (Int.tmod a0_1 64)).bind fun t112 => (if (((((((t108 ++ (⟨#[46]⟩ : ByteArray)) ++ t109) ++ (⟨#[46]⟩ : ByteArray)) ++ t110) ++ (⟨#[46]⟩ : ByteArray)) ++ t111) ++ (⟨#[47]⟩ : ByteArray)).size + t112.size ≤ 9223372036854775807 then (some ((((((((t108 ++ (⟨#[46]⟩ : ByteArray)) ++ t109) ++ (⟨#[46]⟩ : ByteArray)) ++ t110) ++ (⟨#[46]⟩ : ByteArray)) ++ t111) ++ (⟨#[47]⟩ : ByteArray)) ++ t112)) else (none))) else (none)) else (none))) else (none)) else (none))) else (none)) else (none))) else (none)) = some r := H
       have A48 := qq.mk A480
       clear A480
       by_cases c49 : t108.size + 1 ≤ 9223372036854775807
       ·rw [if_pos c49] at H
        have c49b0 := eq_true c49
        have c49b1 : decide (t108.size + 1 ≤ 9223372036854775807) = true := decide_eq_true c49
        try have c49b2 : (9223372036854775807 < t108.size + 1) = False := eq_false (Nat.not_lt.2 c49)
        replace H := Option.bind_eq_some_iff.mp H
        obtain ⟨t109,A500,H⟩ := H
        replace H : (if (t108 ++ (⟨#[46]⟩ : ByteArray)).size + t109.size ≤ 9223372036854775807 then (if ((t108 ++ (⟨#[46]⟩ : ByteArray)) ++ t109).size + 1 ≤ 9223372036854775807 then ((xx.f k (Int.tmod (wrap64 (Int.tdiv t106 256)) 256)).bind fun t110 => (if (((t108 ++ (⟨#[46]⟩ : ByteArray)) ++ t109) ++ (⟨#[46]⟩ : ByteArray)).size + t110.size ≤ 9223372036854775807 then (if ((((t108 ++ (⟨#[46]⟩ : ByteArray)) ++ t109) ++ (⟨#[46]⟩ : ByteArray)) ++ t110).size + 1 ≤ 9223372036854775807 then ((xx.f k (Int.tmod t106 256)).bind fun t111 => (if (((((t108 ++ (⟨#[46]⟩ : ByteArray)) ++ t109) ++ (⟨#[46]⟩ : ByteArray)) ++ t110) ++ (⟨#[46]⟩ : ByteArray)).size + t111.size ≤ 9223372036854775807 then (if ((((((t108 ++ (⟨#[46]⟩ : ByteArray)) ++ t109) ++ (⟨#[46]⟩ : ByteArray)) ++ t110) ++ (⟨#[46]⟩ : ByteArray)) ++ t111).size + 1 ≤ 9223372036854775807 then ((xx.f k (Int.tmod a0_1 64)).bind fun t112 => (if (((((((t108 ++ (⟨#[46]⟩ : ByteArray)) ++ t109) ++ (⟨#[46]⟩ : ByteArray)) ++ t110) ++ (⟨#[46]⟩ : ByteArray)) ++ t111) ++ (⟨#[47]⟩ : ByteArray)).size + t112.size ≤ 9223372036854775807 then (some ((((((((t108 ++ (⟨#[46]⟩ : ByteArray)) ++ t109) ++ (⟨#[46]⟩ : ByteArray)) ++ t110) ++ (⟨#[46]⟩ : ByteArray)) ++ t111) ++ (⟨#[47]⟩ : ByteArray)) ++ t112)) else (none))) else (none)) else (none))) else (none)) else (none))) else (none)) else (none)) = some r := H
        have A50 := qq.mk A500
        clear A500
        by_cases c51 : (t108 ++ (⟨#[46]⟩ : ByteArray)).size + t109.size ≤ 9223372036854775807
        ·rw [if_pos c51] at H
         have c51b0 := eq_true c51
         have c51b1 : decide ((t108 ++ (⟨#[46]⟩ : ByteArray)).size + t109.size ≤ 9223372036854775807) = true := decide_eq_true c51
         try have c51b2 : (9223372036854775807 < (t108 ++ (⟨#[46]⟩ : ByteArray)).size + t109.size) = False := eq_false (Nat.not_lt.2 c51)
         try (have c51b9 := c51b2;simp only [ByteArray.size_append,show (⟨#[46]⟩ : ByteArray).size = 1 from rfl] at c51b9)
         by_cases c52 : ((t108 ++ (⟨#[46]⟩ : ByteArray)) ++ t109).size + 1 ≤ 9223372036854775807
         ·rw [if_pos c52] at H
          have c52b0 := eq_true c52
          have c52b1 : decide (((t108 ++ (⟨#[46]⟩ : ByteArray)) ++ t109).size + 1 ≤ 9223372036854775807) = true := decide_eq_true c52
          try have c52b2 : (9223372036854775807 < ((t108 ++ (⟨#[46]⟩ : ByteArray)) ++ t109).size + 1) = False := eq_false (Nat.not_lt.2 c52)
          try (have c52b9 := c52b2;simp only [ByteArray.size_append,show (⟨#[46]⟩ : ByteArray).size = 1 from rfl] at c52b9)
          replace H := Option.bind_eq_some_iff.mp H
          obtain ⟨t110,A530,H⟩ := H
          replace H : (if (((t108 ++ (⟨#[46]⟩ : ByteArray)) ++ t109) ++ (⟨#[46]⟩ : ByteArray)).size + t110.size ≤ 9223372036854775807 then (if ((((t108 ++ (⟨#[46]⟩ : ByteArray)) ++ t109) ++ (⟨#[46]⟩ : ByteArray)) ++ t110).size + 1 ≤ 9223372036854775807 then ((xx.f k (Int.tmod t106 256)).bind fun t111 => (if (((((t108 ++ (⟨#[46]⟩ : ByteArray)) ++ t109) ++ (⟨#[46]⟩ : ByteArray)) ++ t110) ++ (⟨#[46]⟩ : ByteArray)).size + t111.size ≤ 9223372036854775807 then (if ((((((t108 ++ (⟨#[46]⟩ : ByteArray)) ++ t109) ++ (⟨#[46]⟩ : ByteArray)) ++ t110) ++ (⟨#[46]⟩ : ByteArray)) ++ t111).size + 1 ≤ 9223372036854775807 then ((xx.f k (Int.tmod a0_1 64)).bind fun t112 => (if (((((((t108 ++ (⟨#[46]⟩ : ByteArray)) ++ t109) ++ (⟨#[46]⟩ : ByteArray)) ++ t110) ++ (⟨#[46]⟩ : ByteArray)) ++ t111) ++ (⟨#[47]⟩ : ByteArray)).size + t112.size ≤ 9223372036854775807 then (some ((((((((t108 ++ (⟨#[46]⟩ : ByteArray)) ++ t109) ++ (⟨#[46]⟩ : ByteArray)) ++ t110) ++ (⟨#[46]⟩ : ByteArray)) ++ t111) ++ (⟨#[47]⟩ : ByteArray)) ++ t112)) else (none))) else (none)) else (none))) else (none)) else (none)) = some r := H
          have A53 := qq.mk A530
          clear A530
          by_cases c54 : (((t108 ++ (⟨#[46]⟩ : ByteArray)) ++ t109) ++ (⟨#[46]⟩ : ByteArray)).size + t110.size ≤ 9223372036854775807
          ·rw [if_pos c54] at H
           have c54b0 := eq_true c54
           have c54b1 : decide ((((t108 ++ (⟨#[46]⟩ : ByteArray)) ++ t109) ++ (⟨#[46]⟩ : ByteArray)).size + t110.size ≤ 9223372036854775807) = true := decide_eq_true c54
           try have c54b2 : (9223372036854775807 < (((t108 ++ (⟨#[46]⟩ : ByteArray)) ++ t109) ++ (⟨#[46]⟩ : ByteArray)).size + t110.size) = False := eq_false (Nat.not_lt.2 c54)
           try (have c54b9 := c54b2;simp only [ByteArray.size_append,show (⟨#[46]⟩ : ByteArray).size = 1 from rfl] at c54b9)
           by_cases c55 : ((((t108 ++ (⟨#[46]⟩ : ByteArray)) ++ t109) ++ (⟨#[46]⟩ : ByteArray)) ++ t110).size + 1 ≤ 9223372036854775807
           ·rw [if_pos c55] at H
            have c55b0 := eq_true c55
            have c55b1 : decide (((((t108 ++ (⟨#[46]⟩ : ByteArray)) ++ t109) ++ (⟨#[46]⟩ : ByteArray)) ++ t110).size + 1 ≤ 9223372036854775807) = true := decide_eq_true c55
            try have c55b2 : (9223372036854775807 < ((((t108 ++ (⟨#[46]⟩ : ByteArray)) ++ t109) ++ (⟨#[46]⟩ : ByteArray)) ++ t110).size + 1) = False := eq_false (Nat.not_lt.2 c55)
            try (have c55b9 := c55b2;simp only [ByteArray.size_append,show (⟨#[46]⟩ : ByteArray).size = 1 from rfl] at c55b9)
            replace H := Option.bind_eq_some_iff.mp H
            obtain ⟨t111,A560,H⟩ := H
            replace H : (if (((((t108 ++ (⟨#[46]⟩ : ByteArray)) ++ t109) ++ (⟨#[46]⟩ : ByteArray)) ++ t110) ++ (⟨#[46]⟩ : ByteArray)).size + t111.size ≤ 9223372036854775807 then (if ((((((t108 ++ (⟨#[46]⟩ : ByteArray)) ++ t109) ++ (⟨#[46]⟩ : ByteArray)) ++ t110) ++ (⟨#[46]⟩ : ByteArray)) ++ t111).size + 1 ≤ 9223372036854775807 then ((xx.f k (Int.tmod a0_1 64)).bind fun t112 => (if (((((((t108 ++ (⟨#[46]⟩ : ByteArray)) ++ t109) ++ (⟨#[46]⟩ : ByteArray)) ++ t110) ++ (⟨#[46]⟩ : ByteArray)) ++ t111) ++ (⟨#[47]⟩ : ByteArray)).size + t112.size ≤ 9223372036854775807 then (some ((((((((t108 ++ (⟨#[46]⟩ : ByteArray)) ++ t109) ++ (⟨#[46]⟩ : ByteArray)) ++ t110) ++ (⟨#[46]⟩ : ByteArray)) ++ t111) ++ (⟨#[47]⟩ : ByteArray)) ++ t112)) else (none))) else (none)) else (none)) = some r := H
            have A56 := qq.mk A560
            clear A560
            by_cases c57 : (((((t108 ++ (⟨#[46]⟩ : ByteArray)) ++ t109) ++ (⟨#[46]⟩ : ByteArray)) ++ t110) ++ (⟨#[46]⟩ : ByteArray)).size + t111.size ≤ 9223372036854775807
            ·rw [if_pos c57] at H
             have c57b0 := eq_true c57
             have c57b1 : decide ((((((t108 ++ (⟨#[46]⟩ : ByteArray)) ++ t109) ++ (⟨#[46]⟩ : ByteArray)) ++ t110) ++ (⟨#[46]⟩ : ByteArray)).size + t111.size ≤ 9223372036854775807) = true := decide_eq_true c57
             try have c57b2 : (9223372036854775807 < (((((t108 ++ (⟨#[46]⟩ : ByteArray)) ++ t109) ++ (⟨#[46]⟩ : ByteArray)) ++ t110) ++ (⟨#[46]⟩ : ByteArray)).size + t111.size) = False := eq_false (Nat.not_lt.2 c57)
             try (have c57b9 := c57b2;simp only [ByteArray.size_append,show (⟨#[46]⟩ : ByteArray).size = 1 from rfl] at c57b9)
             by_cases c58 : ((((((t108 ++ (⟨#[46]⟩ : ByteArray)) ++ t109) ++ (⟨#[46]⟩ : ByteArray)) ++ t110) ++ (⟨#[46]⟩ : ByteArray)) ++ t111).size + 1 ≤ 9223372036854775807
             ·rw [if_pos c58] at H
              have c58b0 := eq_true c58
              have c58b1 : decide (((((((t108 ++ (⟨#[46]⟩ : ByteArray)) ++ t109) ++ (⟨#[46]⟩ : ByteArray)) ++ t110) ++ (⟨#[46]⟩ : ByteArray)) ++ t111).size + 1 ≤ 9223372036854775807) = true := decide_eq_true c58
              try have c58b2 : (9223372036854775807 < ((((((t108 ++ (⟨#[46]⟩ : ByteArray)) ++ t109) ++ (⟨#[46]⟩ : ByteArray)) ++ t110) ++ (⟨#[46]⟩ : ByteArray)) ++ t111).size + 1) = False := eq_false (Nat.not_lt.2 c58)
              try (have c58b9 := c58b2;simp only [ByteArray.size_append,show (⟨#[46]⟩ : ByteArray).size = 1 from rfl] at c58b9)
              replace H := Option.bind_eq_some_iff.mp H
              obtain ⟨t112,A590,H⟩ := H
              replace H : (if (((((((t108 ++ (⟨#[46]⟩ : ByteArray)) ++ t109) ++ (⟨#[46]⟩ : ByteArray)) ++ t110) ++ (⟨#[46]⟩ : ByteArray)) ++ t111) ++ (⟨#[47]⟩ : ByteArray)).size + t112.size ≤ 9223372036854775807 then (some ((((((((t108 ++ (⟨#[46]⟩ : ByteArray)) ++ t109) ++ (⟨#[46]⟩ : ByteArray)) ++ t110) ++ (⟨#[46]⟩ : ByteArray)) ++ t111) ++ (⟨#[47]⟩ : ByteArray)) ++ t112)) else (none)) = some r := H
              have A59 := qq.mk A590
              clear A590
              by_cases c60 : (((((((t108 ++ (⟨#[46]⟩ : ByteArray)) ++ t109) ++ (⟨#[46]⟩ : ByteArray)) ++ t110) ++ (⟨#[46]⟩ : ByteArray)) ++ t111) ++ (⟨#[47]⟩ : ByteArray)).size + t112.size ≤ 9223372036854775807
              ·rw [if_pos c60] at H
               have c60b0 := eq_true c60
               have c60b1 : decide ((((((((t108 ++ (⟨#[46]⟩ : ByteArray)) ++ t109) ++ (⟨#[46]⟩ : ByteArray)) ++ t110) ++ (⟨#[46]⟩ : ByteArray)) ++ t111) ++ (⟨#[47]⟩ : ByteArray)).size + t112.size ≤ 9223372036854775807) = true := decide_eq_true c60
               try have c60b2 : (9223372036854775807 < (((((((t108 ++ (⟨#[46]⟩ : ByteArray)) ++ t109) ++ (⟨#[46]⟩ : ByteArray)) ++ t110) ++ (⟨#[46]⟩ : ByteArray)) ++ t111) ++ (⟨#[47]⟩ : ByteArray)).size + t112.size) = False := eq_false (Nat.not_lt.2 c60)
               try (have c60b9 := c60b2;simp only [ByteArray.size_append,show (⟨#[46]⟩ : ByteArray).size = 1 from rfl,show (⟨#[47]⟩ : ByteArray).size = 1 from rfl] at c60b9)
               obtain rfl := Option.some.inj H
               go_enter Tryz.func22,Tryz.ntmps22
               try go_wp2_with (first | ((with_reducible refine gate_dst (N := 1) rfl ?_);refine box_event ?hg (N := 1) ?hd (cs := #[.int .i64 a0_0,.int .i64 a0_1,.string a0_2,.string a0_3]) (t := 28) ?hr ?_;(case hd => rfl);(case hg => rfl);(case hr => first | (go_simp;done) | (go_simp;rfl));intro gb101 hg w61 hbox hb;have n0_ := qq.mk (zv (by repeat (first | (with_reducible first | exact HB.out | apply qj | apply qz | apply qk) | exact HB.out)) hb);have n1_ := qq.mk (hbox);have n2_ := qq.mk ((by rw [hg];exact (zw (by repeat (first | (with_reducible first | exact HB.out | apply qj | apply qz | apply qk) | exact HB.out))) : w.heap.size ≤ gb101));have n3_ := qq.mk ((by rw [hg];exact (zw (by repeat (first | (with_reducible first | exact HB.out | apply qj | apply qz | apply qk) | exact HB.out))) : w.heap.size ≤ gb101));clear HB;have HB := n0_;have BK101 := n1_;have GW101 := n2_;have GE101 := n3_;clear n0_ n1_ n2_ n3_;clear hb hbox hg;have hcz62_0 : w61.cell? ⟨gb101,0,none⟩ = some (.int .i64 a0_0) := (qw BK101.out 0).trans rfl;have hcz62_1 : w61.cell? ⟨gb101,1,none⟩ = some (.int .i64 a0_1) := (qw BK101.out 1).trans rfl;have hcz62_2 : w61.cell? ⟨gb101,2,none⟩ = some (.string a0_2) := (qw BK101.out 2).trans rfl;have hcz62_3 : w61.cell? ⟨gb101,3,none⟩ = some (.string a0_3) := (qw BK101.out 3).trans rfl;have hfz62_0 := qv BK101.out 0;have hfz62_1 := qv BK101.out 1;have hfz62_2 := qv BK101.out 2;have hfz62_3 := qv BK101.out 3) | ((with_reducible refine jv (f := 50) rfl ?_);refine goesL_ (some 64) rfl rfl Tryz.func50 (by kernel_rfl) rfl #[.agg #[.int .i64 a0_0,.int .i64 a0_1,.string a0_2,.string a0_3]] rfl (by (try simp only [List.map_toArray,List.map_cons,List.map_nil]);first | done | rfl | (simp only [List.length_drop,List.length_take];rfl)) ?_;(with_reducible refine (xk.calls k a0_0 a0_1 a0_2 a0_3 t106 t107 _ A47.out).mono ?_);rintro e w63 ⟨rfl,hb⟩;refine ⟨_,rfl,?_⟩;have n0_ := qq.mk (jx (g := gb101) (o := .cells #[.int .i64 a0_0,.int .i64 a0_1,.string a0_2,.string a0_3] 28 (0,0)) (by (with_reducible repeat (first | refine zz ?_ _ | refine zj ?_ | refine zq ?_ _));exact BK101.out) hb);have n1_ := qq.mk (zv (by repeat (first | (with_reducible first | exact HB.out | apply qj | apply qz | apply qk | refine qx ?_ GE101.out) | exact HB.out)) hb);clear BK101;clear HB;have BK101 := n0_;have HB := n1_;clear n0_ n1_;(try clear hb);(try clear hb2);(try clear hk);(try clear hi)))
               have n0_ := qq.mk (zj BK101.out)
               have n1_ := qq.mk (qk HB.out)
               clear BK101
               clear HB
               have BK101 := n0_
               have HB := n1_
               clear n0_ n1_
               refine start_ (n := 27) (S := fun w' => w'.cell? ⟨gb101,0,none⟩ = some (.int .i64 a0_0) ∧ w'.cell? ⟨gb101,1,none⟩ = some (.int .i64 a0_1) ∧ w'.cell? ⟨gb101,2,none⟩ = some (.string a0_2) ∧ w'.cell? ⟨gb101,3,none⟩ = some (.string a0_3)) (ds := []) #[false,false,false,false,false,false,false,false,false,false,false,false,false,false,false,false,false,false,false,false,false,false,false,false,false,false,false] (by kernel_rfl) rfl rfl ⟨(qw BK101.out 0).trans rfl,(qw BK101.out 1).trans rfl,(qw BK101.out 2).trans rfl,(qw BK101.out 3).trans rfl⟩ (fun hHeld => ?_);refine with_tabW qqv.tab22 qqv.bits22 (fun HT_ HW_ => ?_)
               generalize w63.drew = w64 at BK101 HB hHeld ⊢
               refine pure_ (i := 0) (N := some 67) (v := ?_) (a' := ?_) #[true,false,false,false,false,false,false,false,false,false,false,false,false,false,false,false,false,false,false,false,false,false,false,false,false,false,false] rfl rfl (any_of HT_.out (by kernel_rfl)) (fun _ _ _ h => h) (Or.inl ⟨by rfl,?_⟩) ?_ ?_
               rotate_left
               ·intro w'
                go_simp
                with_reducible rfl
               rotate_left
               ·simp only [Act.put,List.setIfInBounds_toArray,List.set_cons_zero,List.set_cons_succ,i64_w,i32_w]
                rfl
               refine pure_ (i := 1) (N := some 68) (v := ?_) (a' := ?_) #[true,true,false,false,false,false,false,false,false,false,false,false,false,false,false,false,false,false,false,false,false,false,false,false,false,false,false] rfl rfl (any_of HT_.out (by kernel_rfl)) (fun _ _ _ h => h) (Or.inl ⟨by rfl,?_⟩) ?_ ?_
               rotate_left
               ·intro w'
                go_simp
                with_reducible rfl
               rotate_left
               ·simp only [Act.put,List.setIfInBounds_toArray,List.set_cons_zero,List.set_cons_succ,i64_w,i32_w]
                rfl
               refine pure_ (i := 4) (N := some 71) (v := ?_) (a' := ?_) #[true,true,false,false,true,false,false,false,false,false,false,false,false,false,false,false,false,false,false,false,false,false,false,false,false,false,false] rfl rfl (any_of HT_.out (by kernel_rfl)) (fun _ _ _ h => h) (Or.inl ⟨by rfl,?_⟩) ?_ ?_
               rotate_left
               ·intro w'
                go_simp
                with_reducible rfl
               rotate_left
               ·simp only [Act.put,List.setIfInBounds_toArray,List.set_cons_zero,List.set_cons_succ,i64_w,i32_w]
                rfl
               refine pure_ (i := 5) (N := some 72) (v := ?_) (a' := ?_) #[true,true,false,false,true,true,false,false,false,false,false,false,false,false,false,false,false,false,false,false,false,false,false,false,false,false,false] rfl rfl (any_of HT_.out (by kernel_rfl)) (fun _ _ _ h => h) (Or.inl ⟨by rfl,?_⟩) ?_ ?_
               rotate_left
               ·intro w'
                go_simp
                with_reducible rfl
               rotate_left
               ·simp only [Act.put,List.setIfInBounds_toArray,List.set_cons_zero,List.set_cons_succ,i64_w,i32_w]
                rfl
               refine pure_ (i := 6) (N := some 73) (v := ?_) (a' := ?_) #[true,true,false,false,true,true,true,false,false,false,false,false,false,false,false,false,false,false,false,false,false,false,false,false,false,false,false] rfl rfl (any_of HT_.out (by kernel_rfl)) (fun _ _ _ h => h) (Or.inl ⟨by rfl,?_⟩) ?_ ?_
               rotate_left
               ·intro w'
                go_simp
                with_reducible rfl
               rotate_left
               ·simp only [Act.put,List.setIfInBounds_toArray,List.set_cons_zero,List.set_cons_succ,i64_w,i32_w]
                rfl
               refine pure_ (i := 10) (N := some 77) (v := ?_) (a' := ?_) #[true,true,false,false,true,true,true,false,false,false,true,false,false,false,false,false,false,false,false,false,false,false,false,false,false,false,false] rfl rfl (any_of HT_.out (by kernel_rfl)) (fun _ _ _ h => h) (Or.inl ⟨by rfl,?_⟩) ?_ ?_
               rotate_left
               ·intro w'
                go_simp
                with_reducible rfl
               rotate_left
               ·simp only [Act.put,List.setIfInBounds_toArray,List.set_cons_zero,List.set_cons_succ,i64_w,i32_w]
                rfl
               refine pure_ (i := 11) (N := some 78) (v := ?_) (a' := ?_) #[true,true,false,false,true,true,true,false,false,false,true,true,false,false,false,false,false,false,false,false,false,false,false,false,false,false,false] rfl rfl (any_of HT_.out (by kernel_rfl)) (fun _ _ _ h => h) (Or.inl ⟨by rfl,?_⟩) ?_ ?_
               rotate_left
               ·intro w'
                go_simp
                with_reducible rfl
               rotate_left
               ·simp only [Act.put,List.setIfInBounds_toArray,List.set_cons_zero,List.set_cons_succ,i64_w,i32_w]
                rfl
               refine pure_ (i := 12) (N := some 79) (v := ?_) (a' := ?_) #[true,true,false,false,true,true,true,false,false,false,true,true,true,false,false,false,false,false,false,false,false,false,false,false,false,false,false] rfl rfl (any_of HT_.out (by kernel_rfl)) (fun _ _ _ h => h) (Or.inl ⟨by rfl,?_⟩) ?_ ?_
               rotate_left
               ·intro w'
                go_simp
                with_reducible rfl
               rotate_left
               ·simp only [Act.put,List.setIfInBounds_toArray,List.set_cons_zero,List.set_cons_succ,i64_w,i32_w]
                rfl
               refine pure_ (i := 16) (N := some 83) (v := ?_) (a' := ?_) #[true,true,false,false,true,true,true,false,false,false,true,true,true,false,false,false,true,false,false,false,false,false,false,false,false,false,false] rfl rfl (any_of HT_.out (by kernel_rfl)) (fun _ _ _ h => h) (Or.inl ⟨by rfl,?_⟩) ?_ ?_
               rotate_left
               ·intro w'
                go_simp
                with_reducible rfl
               rotate_left
               ·simp only [Act.put,List.setIfInBounds_toArray,List.set_cons_zero,List.set_cons_succ,i64_w,i32_w]
                rfl
               refine pure_ (i := 17) (N := some 84) (v := ?_) (a' := ?_) #[true,true,false,false,true,true,true,false,false,false,true,true,true,false,false,false,true,true,false,false,false,false,false,false,false,false,false] rfl rfl (any_of HT_.out (by kernel_rfl)) (fun _ _ _ h => h) (Or.inl ⟨by rfl,?_⟩) ?_ ?_
               rotate_left
               ·intro w'
                go_simp
                with_reducible rfl
               rotate_left
               ·simp only [Act.put,List.setIfInBounds_toArray,List.set_cons_zero,List.set_cons_succ,i64_w,i32_w]
                rfl
               refine pure_ (i := 21) (N := some 88) (v := ?_) (a' := ?_) #[true,true,false,false,true,true,true,false,false,false,true,true,true,false,false,false,true,true,false,false,false,true,false,false,false,false,false] rfl rfl (any_of HT_.out (by kernel_rfl)) (fun _ _ _ h => h) (Or.inl ⟨by rfl,?_⟩) ?_ ?_
               rotate_left
               ·intro w'
                go_simp
                with_reducible rfl
               rotate_left
               ·simp only [Act.put,List.setIfInBounds_toArray,List.set_cons_zero,List.set_cons_succ,i64_w,i32_w]
                rfl
               refine take_ (i := 22) (N := some 89) (v := ?_) (a' := ?_) #[true,true,false,false,true,true,true,false,false,false,true,true,true,false,false,false,true,true,false,false,false,true,true,false,false,false,false] rfl rfl (take_ofW HT_.out HW_.out (by kernel_rfl)) (fun _ _ _ h => h) (Or.inl ⟨by rfl,?_⟩) hHeld ?_ ?_
               rotate_left
               ·rintro w' ⟨s0,s1,s2,s3⟩
                go_simp
                with_reducible rfl
               rotate_left
               ·simp only [Act.put,List.setIfInBounds_toArray,List.set_cons_zero,List.set_cons_succ,i64_w,i32_w]
                rfl
               refine pure_ (i := 23) (N := some 90) (v := ?_) (a' := ?_) #[true,true,false,false,true,true,true,false,false,false,true,true,true,false,false,false,true,true,false,false,false,true,true,true,false,false,false] rfl rfl (any_of HT_.out (by kernel_rfl)) (fun _ _ _ h => h) (Or.inl ⟨by rfl,?_⟩) ?_ ?_
               rotate_left
               ·intro w'
                go_simp
                with_reducible rfl
               rotate_left
               ·simp only [Act.put,List.setIfInBounds_toArray,List.set_cons_zero,List.set_cons_succ,i64_w,i32_w]
                rfl
               refine one_ (i := 2) (N := some 69) #[true,true,true,false,true,true,true,false,false,false,true,true,true,false,false,false,true,true,false,false,false,true,true,true,false,false,false] rfl rfl (one_of HT_.out (by kernel_rfl)) (by decide) (fun K hK => ?_)
               refine goes_ Tryz.func47 (by kernel_rfl) rfl #[.int .i64 (wrap64 (Int.tdiv t106 16777216))] (by rfl) rfl rfl (by (try simp only [List.map_toArray,List.map_cons,List.map_nil]);first | done | rfl | (simp only [List.length_drop,List.length_take];rfl)) ?_
               with_reducible refine (xx.calls k (wrap64 (Int.tdiv t106 16777216)) t108 _ A48.out).mono ?_
               rintro e w65 ⟨rfl,hb⟩
               refine ⟨_,rfl,?_⟩
               have n0_ := qq.mk (jx (g := gb101) (o := .cells #[.int .i64 a0_0,.int .i64 a0_1,.string a0_2,.string a0_3] 28 (0,0)) (by (with_reducible repeat (first | refine zz ?_ _ | refine zj ?_ | refine zq ?_ _));exact BK101.out) hb)
               have n1_ := qq.mk (zv (by repeat (first | (with_reducible first | exact HB.out | apply qj | apply qz | apply qk | refine qx ?_ GE101.out) | exact HB.out)) hb)
               clear BK101
               clear HB
               have BK101 := n0_
               have HB := n1_
               clear n0_ n1_
               (try clear hb)
               (try clear hb2)
               (try clear hk)
               (try clear hi)
               refine hK.out _ _ ⟨(qw BK101.out 0).trans rfl,(qw BK101.out 1).trans rfl,(qw BK101.out 2).trans rfl,(qw BK101.out 3).trans rfl⟩ (fun hHeld => ?_)
               clear hK K
               refine norm_ (a' := ?_) ?_ ?_
               rotate_left
               ·show Act.put _ (some 69) _ = _
                simp only [Act.put,List.setIfInBounds_toArray,List.set_cons_zero,List.set_cons_succ,i64_w,i32_w]
                rfl
               refine pure_ (i := 3) (N := some 70) (v := ?_) (a' := ?_) #[true,true,true,true,true,true,true,false,false,false,true,true,true,false,false,false,true,true,false,false,false,true,true,true,false,false,false] rfl rfl (any_of HT_.out (by kernel_rfl)) (fun _ _ _ h => h) (Or.inl ⟨by rfl,?_⟩) ?_ ?_
               rotate_left
               ·intro w'
                go_simp
                with_reducible rfl
               rotate_left
               ·simp only [Act.put,List.setIfInBounds_toArray,List.set_cons_zero,List.set_cons_succ,i64_w,i32_w]
                rfl
               refine one_ (i := 7) (N := some 74) #[true,true,true,true,true,true,true,true,false,false,true,true,true,false,false,false,true,true,false,false,false,true,true,true,false,false,false] rfl rfl (one_of HT_.out (by kernel_rfl)) (by decide) (fun K hK => ?_)
               refine goes_ Tryz.func47 (by kernel_rfl) rfl #[.int .i64 (Int.tmod (wrap64 (Int.tdiv t106 65536)) 256)] (by rfl) rfl rfl (by (try simp only [List.map_toArray,List.map_cons,List.map_nil]);first | done | rfl | (simp only [List.length_drop,List.length_take];rfl)) ?_
               with_reducible refine (xx.calls k (Int.tmod (wrap64 (Int.tdiv t106 65536)) 256) t109 _ A50.out).mono ?_
               rintro e w66 ⟨rfl,hb⟩
               refine ⟨_,rfl,?_⟩
               have n0_ := qq.mk (jx (g := gb101) (o := .cells #[.int .i64 a0_0,.int .i64 a0_1,.string a0_2,.string a0_3] 28 (0,0)) (by (with_reducible repeat (first | refine zz ?_ _ | refine zj ?_ | refine zq ?_ _));exact BK101.out) hb)
               have n1_ := qq.mk (zv (by repeat (first | (with_reducible first | exact HB.out | apply qj | apply qz | apply qk | refine qx ?_ GE101.out) | exact HB.out)) hb)
               clear BK101
               clear HB
               have BK101 := n0_
               have HB := n1_
               clear n0_ n1_
               (try clear hb)
               (try clear hb2)
               (try clear hk)
               (try clear hi)
               refine hK.out _ _ ⟨(qw BK101.out 0).trans rfl,(qw BK101.out 1).trans rfl,(qw BK101.out 2).trans rfl,(qw BK101.out 3).trans rfl⟩ (fun hHeld => ?_)
               clear hK K
               refine norm_ (a' := ?_) ?_ ?_
               rotate_left
               ·show Act.put _ (some 74) _ = _
                simp only [Act.put,List.setIfInBounds_toArray,List.set_cons_zero,List.set_cons_succ,i64_w,i32_w]
                rfl
               refine pure_ (i := 8) (N := some 75) (v := ?_) (a' := ?_) #[true,true,true,true,true,true,true,true,true,false,true,true,true,false,false,false,true,true,false,false,false,true,true,true,false,false,false] rfl rfl (any_of HT_.out (by kernel_rfl)) (fun _ _ _ h => h) (Or.inl ⟨by rfl,?_⟩) ?_ ?_
               rotate_left
               ·intro w'
                go_simp
                with_reducible rfl
               rotate_left
               ·simp only [Act.put,List.setIfInBounds_toArray,List.set_cons_zero,List.set_cons_succ,i64_w,i32_w]
                rfl
               refine pure_ (i := 9) (N := some 76) (v := ?_) (a' := ?_) #[true,true,true,true,true,true,true,true,true,true,true,true,true,false,false,false,true,true,false,false,false,true,true,true,false,false,false] rfl rfl (any_of HT_.out (by kernel_rfl)) (fun _ _ _ h => h) (Or.inl ⟨by rfl,?_⟩) ?_ ?_
               rotate_left
               ·intro w'
                go_simp
                with_reducible rfl
               rotate_left
               ·simp only [Act.put,List.setIfInBounds_toArray,List.set_cons_zero,List.set_cons_succ,i64_w,i32_w]
                rfl
               refine one_ (i := 13) (N := some 80) #[true,true,true,true,true,true,true,true,true,true,true,true,true,true,false,false,true,true,false,false,false,true,true,true,false,false,false] rfl rfl (one_of HT_.out (by kernel_rfl)) (by decide) (fun K hK => ?_)
               refine goes_ Tryz.func47 (by kernel_rfl) rfl #[.int .i64 (Int.tmod (wrap64 (Int.tdiv t106 256)) 256)] (by rfl) rfl rfl (by (try simp only [List.map_toArray,List.map_cons,List.map_nil]);first | done | rfl | (simp only [List.length_drop,List.length_take];rfl)) ?_
               with_reducible refine (xx.calls k (Int.tmod (wrap64 (Int.tdiv t106 256)) 256) t110 _ A53.out).mono ?_
               rintro e w67 ⟨rfl,hb⟩
               refine ⟨_,rfl,?_⟩
               have n0_ := qq.mk (jx (g := gb101) (o := .cells #[.int .i64 a0_0,.int .i64 a0_1,.string a0_2,.string a0_3] 28 (0,0)) (by (with_reducible repeat (first | refine zz ?_ _ | refine zj ?_ | refine zq ?_ _));exact BK101.out) hb)
               have n1_ := qq.mk (zv (by repeat (first | (with_reducible first | exact HB.out | apply qj | apply qz | apply qk | refine qx ?_ GE101.out) | exact HB.out)) hb)
               clear BK101
               clear HB
               have BK101 := n0_
               have HB := n1_
               clear n0_ n1_
               (try clear hb)
               (try clear hb2)
               (try clear hk)
               (try clear hi)
               refine hK.out _ _ ⟨(qw BK101.out 0).trans rfl,(qw BK101.out 1).trans rfl,(qw BK101.out 2).trans rfl,(qw BK101.out 3).trans rfl⟩ (fun hHeld => ?_)
               clear hK K
               refine norm_ (a' := ?_) ?_ ?_
               rotate_left
               ·show Act.put _ (some 80) _ = _
                simp only [Act.put,List.setIfInBounds_toArray,List.set_cons_zero,List.set_cons_succ,i64_w,i32_w]
                rfl
               refine pure_ (i := 14) (N := some 81) (v := ?_) (a' := ?_) #[true,true,true,true,true,true,true,true,true,true,true,true,true,true,true,false,true,true,false,false,false,true,true,true,false,false,false] rfl rfl (any_of HT_.out (by kernel_rfl)) (fun _ _ _ h => h) (Or.inl ⟨by rfl,?_⟩) ?_ ?_
               rotate_left
               ·intro w'
                go_simp
                with_reducible rfl
               rotate_left
               ·simp only [Act.put,List.setIfInBounds_toArray,List.set_cons_zero,List.set_cons_succ,i64_w,i32_w]
                rfl
               refine pure_ (i := 15) (N := some 82) (v := ?_) (a' := ?_) #[true,true,true,true,true,true,true,true,true,true,true,true,true,true,true,true,true,true,false,false,false,true,true,true,false,false,false] rfl rfl (any_of HT_.out (by kernel_rfl)) (fun _ _ _ h => h) (Or.inl ⟨by rfl,?_⟩) ?_ ?_
               rotate_left
               ·intro w'
                go_simp
                with_reducible rfl
               rotate_left
               ·simp only [Act.put,List.setIfInBounds_toArray,List.set_cons_zero,List.set_cons_succ,i64_w,i32_w]
                rfl
               refine one_ (i := 18) (N := some 85) #[true,true,true,true,true,true,true,true,true,true,true,true,true,true,true,true,true,true,true,false,false,true,true,true,false,false,false] rfl rfl (one_of HT_.out (by kernel_rfl)) (by decide) (fun K hK => ?_)
               refine goes_ Tryz.func47 (by kernel_rfl) rfl #[.int .i64 (Int.tmod t106 256)] (by rfl) rfl rfl (by (try simp only [List.map_toArray,List.map_cons,List.map_nil]);first | done | rfl | (simp only [List.length_drop,List.length_take];rfl)) ?_
               with_reducible refine (xx.calls k (Int.tmod t106 256) t111 _ A56.out).mono ?_
               rintro e w68 ⟨rfl,hb⟩
               refine ⟨_,rfl,?_⟩
               have n0_ := qq.mk (jx (g := gb101) (o := .cells #[.int .i64 a0_0,.int .i64 a0_1,.string a0_2,.string a0_3] 28 (0,0)) (by (with_reducible repeat (first | refine zz ?_ _ | refine zj ?_ | refine zq ?_ _));exact BK101.out) hb)
               have n1_ := qq.mk (zv (by repeat (first | (with_reducible first | exact HB.out | apply qj | apply qz | apply qk | refine qx ?_ GE101.out) | exact HB.out)) hb)
               clear BK101
               clear HB
               have BK101 := n0_
               have HB := n1_
               clear n0_ n1_
               (try clear hb)
               (try clear hb2)
               (try clear hk)
               (try clear hi)
               refine hK.out _ _ ⟨(qw BK101.out 0).trans rfl,(qw BK101.out 1).trans rfl,(qw BK101.out 2).trans rfl,(qw BK101.out 3).trans rfl⟩ (fun hHeld => ?_)
               clear hK K
               refine norm_ (a' := ?_) ?_ ?_
               rotate_left
               ·show Act.put _ (some 85) _ = _
                simp only [Act.put,List.setIfInBounds_toArray,List.set_cons_zero,List.set_cons_succ,i64_w,i32_w]
                rfl
               refine pure_ (i := 19) (N := some 86) (v := ?_) (a' := ?_) #[true,true,true,true,true,true,true,true,true,true,true,true,true,true,true,true,true,true,true,true,false,true,true,true,false,false,false] rfl rfl (any_of HT_.out (by kernel_rfl)) (fun _ _ _ h => h) (Or.inl ⟨by rfl,?_⟩) ?_ ?_
               rotate_left
               ·intro w'
                go_simp
                with_reducible rfl
               rotate_left
               ·simp only [Act.put,List.setIfInBounds_toArray,List.set_cons_zero,List.set_cons_succ,i64_w,i32_w]
                rfl
               refine pure_ (i := 20) (N := some 87) (v := ?_) (a' := ?_) #[true,true,true,true,true,true,true,true,true,true,true,true,true,true,true,true,true,true,true,true,true,true,true,true,false,false,false] rfl rfl (any_of HT_.out (by kernel_rfl)) (fun _ _ _ h => h) (Or.inl ⟨by rfl,?_⟩) ?_ ?_
               rotate_left
               ·intro w'
                go_simp
                with_reducible rfl
               rotate_left
               ·simp only [Act.put,List.setIfInBounds_toArray,List.set_cons_zero,List.set_cons_succ,i64_w,i32_w]
                rfl
               refine one_ (i := 24) (N := some 91) #[true,true,true,true,true,true,true,true,true,true,true,true,true,true,true,true,true,true,true,true,true,true,true,true,true,false,false] rfl rfl (one_of HT_.out (by kernel_rfl)) (by decide) (fun K hK => ?_)
               refine goes_ Tryz.func47 (by kernel_rfl) rfl #[.int .i64 (Int.tmod a0_1 64)] (by rfl) rfl rfl (by (try simp only [List.map_toArray,List.map_cons,List.map_nil]);first | done | rfl | (simp only [List.length_drop,List.length_take];rfl)) ?_
               with_reducible refine (xx.calls k (Int.tmod a0_1 64) t112 _ A59.out).mono ?_
               rintro e w69 ⟨rfl,hb⟩
               refine ⟨_,rfl,?_⟩
               have n0_ := qq.mk (jx (g := gb101) (o := .cells #[.int .i64 a0_0,.int .i64 a0_1,.string a0_2,.string a0_3] 28 (0,0)) (by (with_reducible repeat (first | refine zz ?_ _ | refine zj ?_ | refine zq ?_ _));exact BK101.out) hb)
               have n1_ := qq.mk (zv (by repeat (first | (with_reducible first | exact HB.out | apply qj | apply qz | apply qk | refine qx ?_ GE101.out) | exact HB.out)) hb)
               clear BK101
               clear HB
               have BK101 := n0_
               have HB := n1_
               clear n0_ n1_
               (try clear hb)
               (try clear hb2)
               (try clear hk)
               (try clear hi)
               refine hK.out _ _ ⟨(qw BK101.out 0).trans rfl,(qw BK101.out 1).trans rfl,(qw BK101.out 2).trans rfl,(qw BK101.out 3).trans rfl⟩ (fun hHeld => ?_)
               clear hK K
               refine norm_ (a' := ?_) ?_ ?_
               rotate_left
               ·show Act.put _ (some 91) _ = _
                simp only [Act.put,List.setIfInBounds_toArray,List.set_cons_zero,List.set_cons_succ,i64_w,i32_w]
                rfl
               refine pure_ (i := 25) (N := some 92) (v := ?_) (a' := ?_) #[true,true,true,true,true,true,true,true,true,true,true,true,true,true,true,true,true,true,true,true,true,true,true,true,true,true,false] rfl rfl (any_of HT_.out (by kernel_rfl)) (fun _ _ _ h => h) (Or.inl ⟨by rfl,?_⟩) ?_ ?_
               rotate_left
               ·intro w'
                go_simp
                with_reducible rfl
               rotate_left
               ·simp only [Act.put,List.setIfInBounds_toArray,List.set_cons_zero,List.set_cons_succ,i64_w,i32_w]
                rfl
               refine pure_ (i := 26) (N := some 2) (v := ?_) (a' := ?_) #[true,true,true,true,true,true,true,true,true,true,true,true,true,true,true,true,true,true,true,true,true,true,true,true,true,true,true] rfl rfl (any_of HT_.out (by kernel_rfl)) (fun _ _ _ h => h) (Or.inl ⟨by rfl,?_⟩) ?_ ?_
               rotate_left
               ·intro w'
                go_simp
                with_reducible rfl
               rotate_left
               ·simp only [Act.put,List.setIfInBounds_toArray,List.set_cons_zero,List.set_cons_succ,i64_w,i32_w]
                rfl
               refine done_ (done_of HT_.out (by kernel_rfl)) ?_
               try go_wp2
               go_ret
               exact ⟨by first | rfl | (simp [*,jk,jj] <;> rfl),by repeat (first | (with_reducible first | exact HB.out | apply qj | apply qz | apply qk | refine qx ?_ GE101.out) | exact HB.out)⟩
              ·rw [if_neg c60] at H
               exact absurd H (by simp)
             ·rw [if_neg c58] at H
              exact absurd H (by simp)
            ·rw [if_neg c57] at H
             exact absurd H (by simp)
           ·rw [if_neg c55] at H
            exact absurd H (by simp)
          ·rw [if_neg c54] at H
           exact absurd H (by simp)
         ·rw [if_neg c52] at H
          exact absurd H (by simp)
        ·rw [if_neg c51] at H
         exact absurd H (by simp)
       ·rw [if_neg c49] at H
        exact absurd H (by simp)
      ·rw [if_neg c46] at H
       have c46b0 : (a0_0 == 6) = false := beq_eq_false_iff_ne.mpr c46
       have c46b1 : (a0_0 != 6) = true := bne_iff_ne.mpr c46
       replace H := Option.bind_eq_some_iff.mp H
       obtain ⟨t113,A700,H⟩ := H
       replace H : (if 1 + t113.size ≤ 9223372036854775807 then (some ((⟨#[64]⟩ : ByteArray) ++ t113)) else (none)) = some r := H
       have A70 := qq.mk A700
       clear A700
       by_cases c71 : 1 + t113.size ≤ 9223372036854775807
       ·rw [if_pos c71] at H
        have c71b0 := eq_true c71
        have c71b1 : decide (1 + t113.size ≤ 9223372036854775807) = true := decide_eq_true c71
        try have c71b2 : (9223372036854775807 < 1 + t113.size) = False := eq_false (Nat.not_lt.2 c71)
        obtain rfl := Option.some.inj H
        go_enter Tryz.func22,Tryz.ntmps22
        go_wp2_with (first | ((with_reducible refine gate_dst (N := 1) rfl ?_);refine box_event ?hg (N := 1) ?hd (cs := #[.int .i64 a0_0,.int .i64 a0_1,.string a0_2,.string a0_3]) (t := 28) ?hr ?_;(case hd => rfl);(case hg => rfl);(case hr => first | (go_simp;done) | (go_simp;rfl));intro gb101 hg w72 hbox hb;have n0_ := qq.mk (zv (by repeat (first | (with_reducible first | exact HB.out | apply qj | apply qz | apply qk) | exact HB.out)) hb);have n1_ := qq.mk (hbox);have n2_ := qq.mk ((by rw [hg];exact (zw (by repeat (first | (with_reducible first | exact HB.out | apply qj | apply qz | apply qk) | exact HB.out))) : w.heap.size ≤ gb101));have n3_ := qq.mk ((by rw [hg];exact (zw (by repeat (first | (with_reducible first | exact HB.out | apply qj | apply qz | apply qk) | exact HB.out))) : w.heap.size ≤ gb101));clear HB;have HB := n0_;have BK101 := n1_;have GW101 := n2_;have GE101 := n3_;clear n0_ n1_ n2_ n3_;clear hb hbox hg;have hcz73_0 : w72.cell? ⟨gb101,0,none⟩ = some (.int .i64 a0_0) := (qw BK101.out 0).trans rfl;have hcz73_1 : w72.cell? ⟨gb101,1,none⟩ = some (.int .i64 a0_1) := (qw BK101.out 1).trans rfl;have hcz73_2 : w72.cell? ⟨gb101,2,none⟩ = some (.string a0_2) := (qw BK101.out 2).trans rfl;have hcz73_3 : w72.cell? ⟨gb101,3,none⟩ = some (.string a0_3) := (qw BK101.out 3).trans rfl;have hfz73_0 := qv BK101.out 0;have hfz73_1 := qv BK101.out 1;have hfz73_2 := qv BK101.out 2;have hfz73_3 := qv BK101.out 3) | ((with_reducible refine jv (f := 47) rfl ?_);refine goesL_ (some 95) rfl rfl Tryz.func47 (by kernel_rfl) rfl #[.int .i64 a0_1] rfl (by (try simp only [List.map_toArray,List.map_cons,List.map_nil]);first | done | rfl | (simp only [List.length_drop,List.length_take];rfl)) ?_;(with_reducible refine (xx.calls k a0_1 t113 _ A70.out).mono ?_);rintro e w74 ⟨rfl,hb⟩;refine ⟨_,rfl,?_⟩;have n0_ := qq.mk (jx (g := gb101) (o := .cells #[.int .i64 a0_0,.int .i64 a0_1,.string a0_2,.string a0_3] 28 (0,0)) (by (with_reducible repeat (first | refine zz ?_ _ | refine zj ?_ | refine zq ?_ _));exact BK101.out) hb);have n1_ := qq.mk (zv (by repeat (first | (with_reducible first | exact HB.out | apply qj | apply qz | apply qk | refine qx ?_ GE101.out) | exact HB.out)) hb);clear BK101;clear HB;have BK101 := n0_;have HB := n1_;clear n0_ n1_;(try clear hb);(try clear hb2);(try clear hk);(try clear hi)))
        go_ret
        exact ⟨by first | rfl | (simp [*,jk,jj] <;> rfl),by repeat (first | (with_reducible first | exact HB.out | apply qj | apply qz | apply qk | refine qx ?_ GE101.out) | exact HB.out)⟩
       ·rw [if_neg c71] at H
        exact absurd H (by simp)
theorem xz.re_ {P : Program} {ops : Array Oper} {Q : Exit → Act → World → Prop} {md : Region.Mode} {S S' : World → Prop} : ∀ {fuel : Nat} {l : Array Bool} {a : Act} {w : World},S' w → (∀ w',S' w' → S w') → (S' w → wpAnyLast P md ops Q S' [] fuel l a w) → wpAnyLast P md ops Q S [] fuel l a w
 | 0,_,_,_,h,_,H => H h
 | _ + 1,_,_,_,h,hi,H => ⟨(H h).1,fun i hm => wpOp_mono (fun a' w' hx => ⟨fun hn _ => hi _ (hx.1 hn h),xz.re_ (hx.1 (by simp) h) hi (fun _ => hx.2)⟩) ((H h).2 i hm)⟩
def xz.f (k : Nat) (a0_0 : ByteArray) (a0_1 : Int) (a0_2 : ByteArray) (a0_3 : Int) (a0_4 : Int) (a0_5 : ByteArray) (a0_6 : ByteArray) : Option (ByteArray) := (xj.f k a0_0 a0_1 a0_2 a0_3 a0_4 a0_5 a0_6).bind fun t102 => (if t102 = true then (if a0_0.size + 1 ≤ 9223372036854775807 then ((qqw.f).bind fun t103 => (if 0 ≤ a0_1 then (if a0_1 < (t103.length : Int) then (if (a0_0 ++ (⟨#[32]⟩ : ByteArray)).size + (rdOf ByteArray.empty t103 a0_1).size ≤ 9223372036854775807 then (if ((a0_0 ++ (⟨#[32]⟩ : ByteArray)) ++ (rdOf ByteArray.empty t103 a0_1)).size + 1 ≤ 9223372036854775807 then ((qqv.f k a0_3 a0_4 a0_5 a0_6).bind fun t107 => (if (((a0_0 ++ (⟨#[32]⟩ : ByteArray)) ++ (rdOf ByteArray.empty t103 a0_1)) ++ (⟨#[32]⟩ : ByteArray)).size + t107.size ≤ 9223372036854775807 then (some ((((a0_0 ++ (⟨#[32]⟩ : ByteArray)) ++ (rdOf ByteArray.empty t103 a0_1)) ++ (⟨#[32]⟩ : ByteArray)) ++ t107)) else (none))) else (none)) else (none)) else (none)) else (none))) else (none)) else (some (⟨#[]⟩ : ByteArray)))
def xz.T3 : Bool × List (List Nat × List Nat) := (true,[([],[]),([0],[0]),([1],[1]),([],[]),([],[]),([4],[4]),([3,5],[3,5]),([6],[6]),([2,7],[2,7]),([8],[8]),([],[]),([10],[10]),([11,3],[11]),([9,12],[9,12]),([13,12,0,1,2,3,4,5,6,7,8,9,10,11,12,13],[13])])
def xz.B3 : List Nat := [0,1,3,0,0,16,56,120,255,511,0,1024,3080,8191,16383]
theorem xz.tab3 : rtab .any (opsOf Tryz.f7 3) = xz.T3 := by kernel_rfl
theorem xz.bits3 : waitsOk xz.T3.2 xz.B3 = true := by kernel_rfl
set_option maxHeartbeats 8000000 in
set_option maxRecDepth 100000 in
theorem xz.calls (k : Nat) (a0_0 : ByteArray) (a0_1 : Int) (a0_2 : ByteArray) (a0_3 : Int) (a0_4 : Int) (a0_5 : ByteArray) (a0_6 : ByteArray) (r : ByteArray) (w : World) (h : xz.f k a0_0 a0_1 a0_2 a0_3 a0_4 a0_5 a0_6 = some r) :
  Calls Tryz.prog 7 #[.agg #[.string a0_0,.int .i64 a0_1,.string a0_2,.int .i64 a0_3,.int .i64 a0_4,.string a0_5,.string a0_6]] w fun e w' => e = .returned (.string r) ∧ Below w.heap.size w w' := by
 have hu30 := Tryz.underlying30
 have hu28 := Tryz.underlying28
 have HB := qq.mk (Below.refl w.heap.size w)
 have H : ((xj.f k a0_0 a0_1 a0_2 a0_3 a0_4 a0_5 a0_6).bind fun t102 => (if t102 = true then (if a0_0.size + 1 ≤ 9223372036854775807 then ((qqw.f).bind fun t103 => (if 0 ≤ a0_1 then (if a0_1 < (t103.length : Int) then (if (a0_0 ++ (⟨#[32]⟩ : ByteArray)).size + (rdOf ByteArray.empty t103 a0_1).size ≤ 9223372036854775807 then (if ((a0_0 ++ (⟨#[32]⟩ : ByteArray)) ++ (rdOf ByteArray.empty t103 a0_1)).size + 1 ≤ 9223372036854775807 then ((qqv.f k a0_3 a0_4 a0_5 a0_6).bind fun t107 => (if (((a0_0 ++ (⟨#[32]⟩ : ByteArray)) ++ (rdOf ByteArray.empty t103 a0_1)) ++ (⟨#[32]⟩ : ByteArray)).size + t107.size ≤ 9223372036854775807 then (some ((((a0_0 ++ (⟨#[32]⟩ : ByteArray)) ++ (rdOf ByteArray.empty t103 a0_1)) ++ (⟨#[32]⟩ : ByteArray)) ++ t107)) else (none))) else (none)) else (none)) else (none)) else (none))) else (none)) else (some (⟨#[]⟩ : ByteArray)))) = some r := h
 clear h
 replace H := Option.bind_eq_some_iff.mp H
 obtain ⟨t102,A20,H⟩ := H
 replace H : (if t102 = true then (if a0_0.size + 1 ≤ 9223372036854775807 then ((qqw.f).bind fun t103 => (if 0 ≤ a0_1 then (if a0_1 < (t103.length : Int) then (if (a0_0 ++ (⟨#[32]⟩ : ByteArray)).size + (rdOf ByteArray.empty t103 a0_1).size ≤ 9223372036854775807 then (if ((a0_0 ++ (⟨#[32]⟩ : ByteArray)) ++ (rdOf ByteArray.empty t103 a0_1)).size + 1 ≤ 9223372036854775807 then ((qqv.f k a0_3 a0_4 a0_5 a0_6).bind fun t107 => (if (((a0_0 ++ (⟨#[32]⟩ : ByteArray)) ++ (rdOf ByteArray.empty t103 a0_1)) ++ (⟨#[32]⟩ : ByteArray)).size + t107.size ≤ 9223372036854775807 then (some ((((a0_0 ++ (⟨#[32]⟩ : ByteArray)) ++ (rdOf ByteArray.empty t103 a0_1)) ++ (⟨#[32]⟩ : ByteArray)) ++ t107)) else (none))) else (none)) else (none)) else (none)) else (none))) else (none)) else (some (⟨#[]⟩ : ByteArray))) = some r := H
 have A2 := qq.mk A20
 clear A20
 by_cases c3 : t102 = true
 ·subst c3
  have H1 : (if a0_0.size + 1 ≤ 9223372036854775807 then ((qqw.f).bind fun t103 => (if 0 ≤ a0_1 then (if a0_1 < (t103.length : Int) then (if (a0_0 ++ (⟨#[32]⟩ : ByteArray)).size + (rdOf ByteArray.empty t103 a0_1).size ≤ 9223372036854775807 then (if ((a0_0 ++ (⟨#[32]⟩ : ByteArray)) ++ (rdOf ByteArray.empty t103 a0_1)).size + 1 ≤ 9223372036854775807 then ((qqv.f k a0_3 a0_4 a0_5 a0_6).bind fun t107 => (if (((a0_0 ++ (⟨#[32]⟩ : ByteArray)) ++ (rdOf ByteArray.empty t103 a0_1)) ++ (⟨#[32]⟩ : ByteArray)).size + t107.size ≤ 9223372036854775807 then (some ((((a0_0 ++ (⟨#[32]⟩ : ByteArray)) ++ (rdOf ByteArray.empty t103 a0_1)) ++ (⟨#[32]⟩ : ByteArray)) ++ t107)) else (none))) else (none)) else (none)) else (none)) else (none))) else (none)) = some r := by rw [if_pos rfl] at H;exact H
  clear H
  have H := H1
  clear H1
  by_cases c4 : a0_0.size + 1 ≤ 9223372036854775807
  ·rw [if_pos c4] at H
   have c4b0 := eq_true c4
   have c4b1 : decide (a0_0.size + 1 ≤ 9223372036854775807) = true := decide_eq_true c4
   try have c4b2 : (9223372036854775807 < a0_0.size + 1) = False := eq_false (Nat.not_lt.2 c4)
   replace H := Option.bind_eq_some_iff.mp H
   obtain ⟨t103,A50,H⟩ := H
   replace H : (if 0 ≤ a0_1 then (if a0_1 < (t103.length : Int) then (if (a0_0 ++ (⟨#[32]⟩ : ByteArray)).size + (rdOf ByteArray.empty t103 a0_1).size ≤ 9223372036854775807 then (if ((a0_0 ++ (⟨#[32]⟩ : ByteArray)) ++ (rdOf ByteArray.empty t103 a0_1)).size + 1 ≤ 9223372036854775807 then ((qqv.f k a0_3 a0_4 a0_5 a0_6).bind fun t107 => (if (((a0_0 ++ (⟨#[32]⟩ : ByteArray)) ++ (rdOf ByteArray.empty t103 a0_1)) ++ (⟨#[32]⟩ : ByteArray)).size + t107.size ≤ 9223372036854775807 then (some ((((a0_0 ++ (⟨#[32]⟩ : ByteArray)) ++ (rdOf ByteArray.empty t103 a0_1)) ++ (⟨#[32]⟩ : ByteArray)) ++ t107)) else (none))) else (none)) else (none)) else (none)) else (none)) = some r := H
   have A5 := qq.mk A50
   clear A50
   by_cases c6 : 0 ≤ a0_1
   ·rw [if_pos c6] at H
    have c6b0 : decide (0 ≤ a0_1) = true := decide_eq_true c6
    clear c6
    by_cases c7 : a0_1 < (t103.length : Int)
    ·rw [if_pos c7] at H
     have c7b0 : decide (a0_1 < (t103.length : Int)) = true := decide_eq_true c7
     clear c7
     by_cases c8 : (a0_0 ++ (⟨#[32]⟩ : ByteArray)).size + (rdOf ByteArray.empty t103 a0_1).size ≤ 9223372036854775807
     ·rw [if_pos c8] at H
      have c8b0 := eq_true c8
      have c8b1 : decide ((a0_0 ++ (⟨#[32]⟩ : ByteArray)).size + (rdOf ByteArray.empty t103 a0_1).size ≤ 9223372036854775807) = true := decide_eq_true c8
      try have c8b2 : (9223372036854775807 < (a0_0 ++ (⟨#[32]⟩ : ByteArray)).size + (rdOf ByteArray.empty t103 a0_1).size) = False := eq_false (Nat.not_lt.2 c8)
      try (have c8b9 := c8b2;simp only [ByteArray.size_append,show (⟨#[32]⟩ : ByteArray).size = 1 from rfl] at c8b9)
      by_cases c9 : ((a0_0 ++ (⟨#[32]⟩ : ByteArray)) ++ (rdOf ByteArray.empty t103 a0_1)).size + 1 ≤ 9223372036854775807
      ·rw [if_pos c9] at H
       have c9b0 := eq_true c9
       have c9b1 : decide (((a0_0 ++ (⟨#[32]⟩ : ByteArray)) ++ (rdOf ByteArray.empty t103 a0_1)).size + 1 ≤ 9223372036854775807) = true := decide_eq_true c9
       try have c9b2 : (9223372036854775807 < ((a0_0 ++ (⟨#[32]⟩ : ByteArray)) ++ (rdOf ByteArray.empty t103 a0_1)).size + 1) = False := eq_false (Nat.not_lt.2 c9)
       try (have c9b9 := c9b2;simp only [ByteArray.size_append,show (⟨#[32]⟩ : ByteArray).size = 1 from rfl] at c9b9)
       replace H := Option.bind_eq_some_iff.mp H
       obtain ⟨t107,A100,H⟩ := H
       replace H : (if (((a0_0 ++ (⟨#[32]⟩ : ByteArray)) ++ (rdOf ByteArray.empty t103 a0_1)) ++ (⟨#[32]⟩ : ByteArray)).size + t107.size ≤ 9223372036854775807 then (some ((((a0_0 ++ (⟨#[32]⟩ : ByteArray)) ++ (rdOf ByteArray.empty t103 a0_1)) ++ (⟨#[32]⟩ : ByteArray)) ++ t107)) else (none)) = some r := H
       have A10 := qq.mk A100
       clear A100
       by_cases c11 : (((a0_0 ++ (⟨#[32]⟩ : ByteArray)) ++ (rdOf ByteArray.empty t103 a0_1)) ++ (⟨#[32]⟩ : ByteArray)).size + t107.size ≤ 9223372036854775807
       ·rw [if_pos c11] at H
        have c11b0 := eq_true c11
        have c11b1 : decide ((((a0_0 ++ (⟨#[32]⟩ : ByteArray)) ++ (rdOf ByteArray.empty t103 a0_1)) ++ (⟨#[32]⟩ : ByteArray)).size + t107.size ≤ 9223372036854775807) = true := decide_eq_true c11
        try have c11b2 : (9223372036854775807 < (((a0_0 ++ (⟨#[32]⟩ : ByteArray)) ++ (rdOf ByteArray.empty t103 a0_1)) ++ (⟨#[32]⟩ : ByteArray)).size + t107.size) = False := eq_false (Nat.not_lt.2 c11)
        try (have c11b9 := c11b2;simp only [ByteArray.size_append,show (⟨#[32]⟩ : ByteArray).size = 1 from rfl] at c11b9)
        obtain rfl := Option.some.inj H
        go_enter Tryz.func7,Tryz.ntmps7
        try go_wp2_with (first | ((with_reducible refine gate_dst (N := 1) rfl ?_);refine box_event ?hg (N := 1) ?hd (cs := #[.string a0_0,.int .i64 a0_1,.string a0_2,.int .i64 a0_3,.int .i64 a0_4,.string a0_5,.string a0_6]) (t := 30) ?hr ?_;(case hd => rfl);(case hg => rfl);(case hr => first | (go_simp;done) | (go_simp;rfl));intro gb101 hg w12 hbox hb;have n0_ := qq.mk (zv (by repeat (first | (with_reducible first | exact HB.out | apply qj | apply qz | apply qk) | exact HB.out)) hb);have n1_ := qq.mk (hbox);have n2_ := qq.mk ((by rw [hg];exact (zw (by repeat (first | (with_reducible first | exact HB.out | apply qj | apply qz | apply qk) | exact HB.out))) : w.heap.size ≤ gb101));have n3_ := qq.mk ((by rw [hg];exact (zw (by repeat (first | (with_reducible first | exact HB.out | apply qj | apply qz | apply qk) | exact HB.out))) : w.heap.size ≤ gb101));clear HB;have HB := n0_;have BK101 := n1_;have GW101 := n2_;have GE101 := n3_;clear n0_ n1_ n2_ n3_;clear hb hbox hg;have hcz13_0 : w12.cell? ⟨gb101,0,none⟩ = some (.string a0_0) := (qw BK101.out 0).trans rfl;have hcz13_1 : w12.cell? ⟨gb101,1,none⟩ = some (.int .i64 a0_1) := (qw BK101.out 1).trans rfl;have hcz13_2 : w12.cell? ⟨gb101,2,none⟩ = some (.string a0_2) := (qw BK101.out 2).trans rfl;have hcz13_3 : w12.cell? ⟨gb101,3,none⟩ = some (.int .i64 a0_3) := (qw BK101.out 3).trans rfl;have hcz13_4 : w12.cell? ⟨gb101,4,none⟩ = some (.int .i64 a0_4) := (qw BK101.out 4).trans rfl;have hcz13_5 : w12.cell? ⟨gb101,5,none⟩ = some (.string a0_5) := (qw BK101.out 5).trans rfl;have hcz13_6 : w12.cell? ⟨gb101,6,none⟩ = some (.string a0_6) := (qw BK101.out 6).trans rfl;have hfz13_0 := qv BK101.out 0;have hfz13_1 := qv BK101.out 1;have hfz13_2 := qv BK101.out 2;have hfz13_3 := qv BK101.out 3;have hfz13_4 := qv BK101.out 4;have hfz13_5 := qv BK101.out 5;have hfz13_6 := qv BK101.out 6) | ((with_reducible refine jv (f := 20) rfl ?_);refine goesL_ (some 4) rfl rfl Tryz.func20 (by kernel_rfl) rfl #[.agg #[.string a0_0,.int .i64 a0_1,.string a0_2,.int .i64 a0_3,.int .i64 a0_4,.string a0_5,.string a0_6]] rfl (by (try simp only [List.map_toArray,List.map_cons,List.map_nil]);first | done | rfl | (simp only [List.length_drop,List.length_take];rfl)) ?_;(with_reducible refine (xj.calls k a0_0 a0_1 a0_2 a0_3 a0_4 a0_5 a0_6 true _ A2.out).mono ?_);rintro e w14 ⟨rfl,hb⟩;refine ⟨_,rfl,?_⟩;have n0_ := qq.mk (jx (g := gb101) (o := .cells #[.string a0_0,.int .i64 a0_1,.string a0_2,.int .i64 a0_3,.int .i64 a0_4,.string a0_5,.string a0_6] 30 (0,0)) (by (with_reducible repeat (first | refine zz ?_ _ | refine zj ?_ | refine zq ?_ _));exact BK101.out) hb);have n1_ := qq.mk (zv (by repeat (first | (with_reducible first | exact HB.out | apply qj | apply qz | apply qk | refine qx ?_ GE101.out) | exact HB.out)) hb);clear BK101;clear HB;have BK101 := n0_;have HB := n1_;clear n0_ n1_;(try clear hb);(try clear hb2);(try clear hk);(try clear hi)))
        have n0_ := qq.mk (zj BK101.out)
        have n1_ := qq.mk (qk HB.out)
        clear BK101
        clear HB
        have BK101 := n0_
        have HB := n1_
        clear n0_ n1_
        refine start_ (n := 15) (S := fun w' => w'.cell? ⟨gb101,0,none⟩ = some (.string a0_0) ∧ w'.cell? ⟨gb101,1,none⟩ = some (.int .i64 a0_1) ∧ w'.cell? ⟨gb101,2,none⟩ = some (.string a0_2) ∧ w'.cell? ⟨gb101,3,none⟩ = some (.int .i64 a0_3) ∧ w'.cell? ⟨gb101,4,none⟩ = some (.int .i64 a0_4) ∧ w'.cell? ⟨gb101,5,none⟩ = some (.string a0_5) ∧ w'.cell? ⟨gb101,6,none⟩ = some (.string a0_6)) (ds := []) #[false,false,false,false,false,false,false,false,false,false,false,false,false,false,false] (by kernel_rfl) rfl rfl ⟨(qw BK101.out 0).trans rfl,(qw BK101.out 1).trans rfl,(qw BK101.out 2).trans rfl,(qw BK101.out 3).trans rfl,(qw BK101.out 4).trans rfl,(qw BK101.out 5).trans rfl,(qw BK101.out 6).trans rfl⟩ (fun hHeld => ?_);refine with_tabW xz.tab3 xz.bits3 (fun HT_ HW_ => ?_)
        generalize w14.drew = w15 at BK101 HB hHeld ⊢
        refine pure_ (i := 0) (N := some 6) (v := ?_) (a' := ?_) #[true,false,false,false,false,false,false,false,false,false,false,false,false,false,false] rfl rfl (any_of HT_.out (by kernel_rfl)) (fun _ _ _ h => h) (Or.inl ⟨by rfl,?_⟩) ?_ ?_
        rotate_left
        ·intro w'
         go_simp
         with_reducible rfl
        rotate_left
        ·simp only [Act.put,List.setIfInBounds_toArray,List.set_cons_zero,List.set_cons_succ,i64_w,i32_w]
         rfl
        refine pure_ (i := 4) (N := some 10) (v := ?_) (a' := ?_) #[true,false,false,false,true,false,false,false,false,false,false,false,false,false,false] rfl rfl (any_of HT_.out (by kernel_rfl)) (fun _ _ _ h => h) (Or.inl ⟨by rfl,?_⟩) ?_ ?_
        rotate_left
        ·intro w'
         go_simp
         with_reducible rfl
        rotate_left
        ·simp only [Act.put,List.setIfInBounds_toArray,List.set_cons_zero,List.set_cons_succ,i64_w,i32_w]
         rfl
        refine pure_ (i := 10) (N := some 16) (v := ?_) (a' := ?_) #[true,false,false,false,true,false,false,false,false,false,true,false,false,false,false] rfl rfl (any_of HT_.out (by kernel_rfl)) (fun _ _ _ h => h) (Or.inl ⟨by rfl,?_⟩) ?_ ?_
        rotate_left
        ·intro w'
         go_simp
         with_reducible rfl
        rotate_left
        ·simp only [Act.put,List.setIfInBounds_toArray,List.set_cons_zero,List.set_cons_succ,i64_w,i32_w]
         rfl
        refine take_ (i := 1) (N := some 7) (v := ?_) (a' := ?_) #[true,true,false,false,true,false,false,false,false,false,true,false,false,false,false] rfl rfl (take_ofW HT_.out HW_.out (by kernel_rfl)) (fun _ _ _ h => h) (Or.inl ⟨by rfl,?_⟩) hHeld ?_ ?_
        rotate_left
        ·rintro w' ⟨s0,s1,s2,s3,s4,s5,s6⟩
         go_simp
         with_reducible rfl
        rotate_left
        ·simp only [Act.put,List.setIfInBounds_toArray,List.set_cons_zero,List.set_cons_succ,i64_w,i32_w]
         rfl
        refine pure_ (i := 2) (N := some 8) (v := ?_) (a' := ?_) #[true,true,true,false,true,false,false,false,false,false,true,false,false,false,false] rfl rfl (any_of HT_.out (by kernel_rfl)) (fun _ _ _ h => h) (Or.inl ⟨by rfl,?_⟩) ?_ ?_
        rotate_left
        ·intro w'
         go_simp
         with_reducible rfl
        rotate_left
        ·simp only [Act.put,List.setIfInBounds_toArray,List.set_cons_zero,List.set_cons_succ,i64_w,i32_w]
         rfl
        refine take_ (i := 5) (N := some 11) (v := ?_) (a' := ?_) #[true,true,true,false,true,true,false,false,false,false,true,false,false,false,false] rfl rfl (take_ofW HT_.out HW_.out (by kernel_rfl)) (fun _ _ _ h => h) (Or.inl ⟨by rfl,?_⟩) hHeld ?_ ?_
        rotate_left
        ·rintro w' ⟨s0,s1,s2,s3,s4,s5,s6⟩
         go_simp
         with_reducible rfl
        rotate_left
        ·simp only [Act.put,List.setIfInBounds_toArray,List.set_cons_zero,List.set_cons_succ,i64_w,i32_w]
         rfl
        refine take_ (i := 11) (N := some 17) (v := ?_) (a' := ?_) #[true,true,true,false,true,true,false,false,false,false,true,true,false,false,false] rfl rfl (take_ofW HT_.out HW_.out (by kernel_rfl)) (fun _ _ _ h => h) (Or.inl ⟨by rfl,?_⟩) hHeld ?_ ?_
        rotate_left
        ·rintro w' ⟨s0,s1,s2,s3,s4,s5,s6⟩
         go_simp
         with_reducible rfl
        rotate_left
        ·simp only [Act.put,List.setIfInBounds_toArray,List.set_cons_zero,List.set_cons_succ,i64_w,i32_w]
         rfl
        refine one_ (i := 3) (N := some 9) #[true,true,true,true,true,true,false,false,false,false,true,true,false,false,false] rfl rfl (one_of HT_.out (by kernel_rfl)) (by decide) (fun K hK => ?_)
        refine goes_ Tryz.func21 (by kernel_rfl) rfl #[] (by rfl) rfl rfl (by (try simp only [List.map_toArray,List.map_cons,List.map_nil]);first | done | rfl | (simp only [List.length_drop,List.length_take];rfl)) ?_
        with_reducible refine (qqw.calls  t103 _ A5.out).mono ?_
        rintro e w16 ⟨v104,rfl,ho0,hb⟩
        refine ⟨_,rfl,?_⟩
        have n0_ := qq.mk (Kd.R_lower ho0 (zw (by repeat (first | (with_reducible first | exact HB.out | apply qj | apply qz | apply qk | refine qx ?_ GE101.out) | exact HB.out))))
        have n1_ := qq.mk (jx (g := gb101) (o := .cells #[.string a0_0,.int .i64 a0_1,.string a0_2,.int .i64 a0_3,.int .i64 a0_4,.string a0_5,.string a0_6] 30 (0,0)) (by (with_reducible repeat (first | refine zz ?_ _ | refine zj ?_ | refine zq ?_ _));exact BK101.out) hb)
        have n2_ := qq.mk (zv (by repeat (first | (with_reducible first | exact HB.out | apply qj | apply qz | apply qk | refine qx ?_ GE101.out) | exact HB.out)) hb)
        clear BK101
        clear HB
        have HO105 := n0_
        have BK101 := n1_
        have HB := n2_
        clear n0_ n1_ n2_
        (try clear hb)
        (try clear hb2)
        (try clear hk)
        (try clear hi)
        (try clear ho0)
        obtain ⟨Ao17,co17,eo17⟩ := Kd.R_slice HO105.out
        (first | subst eo17 | (injection eo17 with f1_ f2_ f3_;have f4_ := f1_.symm;have f5_ := f3_.symm;clear f1_ f2_ f3_;subst f4_;subst f5_))
        have p106 : 0 ≤ (a0_1 : Int) := of_decide_eq_true (by assumption)
        have q106 : a0_1 < (t103.length : Int) := of_decide_eq_true (by assumption)
        obtain ⟨ad106,e106,hx106_0⟩ := Kd.at_string (Kd.R_reads' HO105.out).2.2 a0_1 p106 q106
        cases e106
        replace p106 := eq_true p106
        replace q106 := eq_true q106
        refine hK.out _ _ ⟨(qw BK101.out 0).trans rfl,(qw BK101.out 1).trans rfl,(qw BK101.out 2).trans rfl,(qw BK101.out 3).trans rfl,(qw BK101.out 4).trans rfl,(qw BK101.out 5).trans rfl,(qw BK101.out 6).trans rfl⟩ (fun hHeld => ?_)
        clear hK K
        refine xz.re_ (S' := fun w' => w'.cell? ⟨gb101,0,none⟩ = some (.string a0_0) ∧ w'.cell? ⟨gb101,1,none⟩ = some (.int .i64 a0_1) ∧ w'.cell? ⟨gb101,2,none⟩ = some (.string a0_2) ∧ w'.cell? ⟨gb101,3,none⟩ = some (.int .i64 a0_3) ∧ w'.cell? ⟨gb101,4,none⟩ = some (.int .i64 a0_4) ∧ w'.cell? ⟨gb101,5,none⟩ = some (.string a0_5) ∧ w'.cell? ⟨gb101,6,none⟩ = some (.string a0_6) ∧ w'.cell? (ad106.add (a0_1).toNat) = some (.string (rdOf ByteArray.empty t103 a0_1))) ⟨(qw BK101.out 0).trans rfl,(qw BK101.out 1).trans rfl,(qw BK101.out 2).trans rfl,(qw BK101.out 3).trans rfl,(qw BK101.out 4).trans rfl,(qw BK101.out 5).trans rfl,(qw BK101.out 6).trans rfl,hx106_0⟩ (by rintro w' ⟨s0,s1,s2,s3,s4,s5,s6,s7⟩;exact ⟨s0,s1,s2,s3,s4,s5,s6⟩) (fun hHeld => ?_)
        refine norm_ (a' := ?_) ?_ ?_
        rotate_left
        ·show Act.put _ (some 9) _ = _
         simp only [Act.put,List.setIfInBounds_toArray,List.set_cons_zero,List.set_cons_succ,i64_w,i32_w]
         rfl
        refine pure_ (i := 6) (N := some 12) (v := ?_) (a' := ?_) #[true,true,true,true,true,true,true,false,false,false,true,true,false,false,false] rfl rfl (any_of HT_.out (by kernel_rfl)) (fun _ _ _ h => h) (Or.inl ⟨by rfl,?_⟩) ?_ ?_
        rotate_left
        ·intro w'
         go_simp
         with_reducible rfl
        rotate_left
        ·simp only [Act.put,List.setIfInBounds_toArray,List.set_cons_zero,List.set_cons_succ,i64_w,i32_w]
         rfl
        refine take_ (i := 7) (N := some 13) (v := ?_) (a' := ?_) #[true,true,true,true,true,true,true,true,false,false,true,true,false,false,false] rfl rfl (take_ofW HT_.out HW_.out (by kernel_rfl)) (fun _ _ _ h => h) (Or.inl ⟨by rfl,?_⟩) hHeld ?_ ?_
        rotate_left
        ·rintro w' ⟨s0,s1,s2,s3,s4,s5,s6,s7⟩
         go_simp
         with_reducible rfl
        rotate_left
        ·simp only [Act.put,List.setIfInBounds_toArray,List.set_cons_zero,List.set_cons_succ,i64_w,i32_w]
         rfl
        refine pure_ (i := 8) (N := some 14) (v := ?_) (a' := ?_) #[true,true,true,true,true,true,true,true,true,false,true,true,false,false,false] rfl rfl (any_of HT_.out (by kernel_rfl)) (fun _ _ _ h => h) (Or.inl ⟨by rfl,?_⟩) ?_ ?_
        rotate_left
        ·intro w'
         go_simp
         with_reducible rfl
        rotate_left
        ·simp only [Act.put,List.setIfInBounds_toArray,List.set_cons_zero,List.set_cons_succ,i64_w,i32_w]
         rfl
        refine pure_ (i := 9) (N := some 15) (v := ?_) (a' := ?_) #[true,true,true,true,true,true,true,true,true,true,true,true,false,false,false] rfl rfl (any_of HT_.out (by kernel_rfl)) (fun _ _ _ h => h) (Or.inl ⟨by rfl,?_⟩) ?_ ?_
        rotate_left
        ·intro w'
         go_simp
         with_reducible rfl
        rotate_left
        ·simp only [Act.put,List.setIfInBounds_toArray,List.set_cons_zero,List.set_cons_succ,i64_w,i32_w]
         rfl
        refine one_ (i := 12) (N := some 18) #[true,true,true,true,true,true,true,true,true,true,true,true,true,false,false] rfl rfl (one_of HT_.out (by kernel_rfl)) (by decide) (fun K hK => ?_)
        refine goes_ Tryz.func22 (by kernel_rfl) rfl #[.agg #[.int .i64 a0_3,.int .i64 a0_4,.string a0_5,.string a0_6]] (by rfl) rfl rfl (by (try simp only [List.map_toArray,List.map_cons,List.map_nil]);first | done | rfl | (simp only [List.length_drop,List.length_take];rfl)) ?_
        with_reducible refine (qqv.calls k a0_3 a0_4 a0_5 a0_6 t107 _ A10.out).mono ?_
        rintro e w18 ⟨rfl,hb⟩
        have HS7_ := (hb.cell (World.block_lt_of_cell? _ _ (hHeld.2.2.2.2.2.2.2))).trans (hHeld.2.2.2.2.2.2.2)
        refine ⟨_,rfl,?_⟩
        have n0_ := qq.mk (Kd.R_below (by (with_reducible repeat (first | apply Kd.jq | apply Kd.zx | apply Kd.jz));exact HO105.out) hb)
        have n1_ := qq.mk (jx (g := gb101) (o := .cells #[.string a0_0,.int .i64 a0_1,.string a0_2,.int .i64 a0_3,.int .i64 a0_4,.string a0_5,.string a0_6] 30 (0,0)) (by (with_reducible repeat (first | refine zz ?_ _ | refine zj ?_ | refine zq ?_ _));exact BK101.out) hb)
        have n2_ := qq.mk (zv (by repeat (first | (with_reducible first | exact HB.out | apply qj | apply qz | apply qk | refine qx ?_ GE101.out) | exact HB.out)) hb)
        clear HO105
        clear BK101
        clear HB
        have HO105 := n0_
        have BK101 := n1_
        have HB := n2_
        clear n0_ n1_ n2_
        (try clear hb)
        (try clear hb2)
        (try clear hk)
        (try clear hi)
        refine hK.out _ _ ⟨(qw BK101.out 0).trans rfl,(qw BK101.out 1).trans rfl,(qw BK101.out 2).trans rfl,(qw BK101.out 3).trans rfl,(qw BK101.out 4).trans rfl,(qw BK101.out 5).trans rfl,(qw BK101.out 6).trans rfl,HS7_⟩ (fun hHeld => ?_)
        clear hK K
        refine norm_ (a' := ?_) ?_ ?_
        rotate_left
        ·show Act.put _ (some 18) _ = _
         simp only [Act.put,List.setIfInBounds_toArray,List.set_cons_zero,List.set_cons_succ,i64_w,i32_w]
         rfl
        refine pure_ (i := 13) (N := some 19) (v := ?_) (a' := ?_) #[true,true,true,true,true,true,true,true,true,true,true,true,true,true,false] rfl rfl (any_of HT_.out (by kernel_rfl)) (fun _ _ _ h => h) (Or.inl ⟨by rfl,?_⟩) ?_ ?_
        rotate_left
        ·intro w'
         go_simp
         with_reducible rfl
        rotate_left
        ·simp only [Act.put,List.setIfInBounds_toArray,List.set_cons_zero,List.set_cons_succ,i64_w,i32_w]
         rfl
        refine pure_ (i := 14) (N := some 2) (v := ?_) (a' := ?_) #[true,true,true,true,true,true,true,true,true,true,true,true,true,true,true] rfl rfl (any_of HT_.out (by kernel_rfl)) (fun _ _ _ h => h) (Or.inl ⟨by rfl,?_⟩) ?_ ?_
        rotate_left
        ·intro w'
         go_simp
         with_reducible rfl
        rotate_left
        ·simp only [Act.put,List.setIfInBounds_toArray,List.set_cons_zero,List.set_cons_succ,i64_w,i32_w]
         rfl
        refine done_ (done_of HT_.out (by kernel_rfl)) ?_
        try go_wp2
        go_ret
        exact ⟨by first | rfl | (simp [*,jk,jj] <;> rfl),by repeat (first | (with_reducible first | exact HB.out | apply qj | apply qz | apply qk | refine qx ?_ GE101.out) | exact HB.out)⟩
       ·rw [if_neg c11] at H
        exact absurd H (by simp)
      ·rw [if_neg c9] at H
       exact absurd H (by simp)
     ·rw [if_neg c8] at H
      exact absurd H (by simp)
    ·rw [if_neg c7] at H
     exact absurd H (by simp)
   ·rw [if_neg c6] at H
    exact absurd H (by simp)
  ·rw [if_neg c4] at H
   exact absurd H (by simp)
 ·replace c3 := Bool.eq_false_iff.mpr c3
  subst c3
  have H1 : (some (⟨#[]⟩ : ByteArray)) = some r := by rw [if_neg (show ¬ (false = true) by decide)] at H;exact H
  clear H
  have H := H1
  clear H1
  obtain rfl := Option.some.inj H
  go_enter Tryz.func7,Tryz.ntmps7
  go_wp2_with (first | ((with_reducible refine gate_dst (N := 1) rfl ?_);refine box_event ?hg (N := 1) ?hd (cs := #[.string a0_0,.int .i64 a0_1,.string a0_2,.int .i64 a0_3,.int .i64 a0_4,.string a0_5,.string a0_6]) (t := 30) ?hr ?_;(case hd => rfl);(case hg => rfl);(case hr => first | (go_simp;done) | (go_simp;rfl));intro gb101 hg w19 hbox hb;have n0_ := qq.mk (zv (by repeat (first | (with_reducible first | exact HB.out | apply qj | apply qz | apply qk) | exact HB.out)) hb);have n1_ := qq.mk (hbox);have n2_ := qq.mk ((by rw [hg];exact (zw (by repeat (first | (with_reducible first | exact HB.out | apply qj | apply qz | apply qk) | exact HB.out))) : w.heap.size ≤ gb101));have n3_ := qq.mk ((by rw [hg];exact (zw (by repeat (first | (with_reducible first | exact HB.out | apply qj | apply qz | apply qk) | exact HB.out))) : w.heap.size ≤ gb101));clear HB;have HB := n0_;have BK101 := n1_;have GW101 := n2_;have GE101 := n3_;clear n0_ n1_ n2_ n3_;clear hb hbox hg;have hcz20_0 : w19.cell? ⟨gb101,0,none⟩ = some (.string a0_0) := (qw BK101.out 0).trans rfl;have hcz20_1 : w19.cell? ⟨gb101,1,none⟩ = some (.int .i64 a0_1) := (qw BK101.out 1).trans rfl;have hcz20_2 : w19.cell? ⟨gb101,2,none⟩ = some (.string a0_2) := (qw BK101.out 2).trans rfl;have hcz20_3 : w19.cell? ⟨gb101,3,none⟩ = some (.int .i64 a0_3) := (qw BK101.out 3).trans rfl;have hcz20_4 : w19.cell? ⟨gb101,4,none⟩ = some (.int .i64 a0_4) := (qw BK101.out 4).trans rfl;have hcz20_5 : w19.cell? ⟨gb101,5,none⟩ = some (.string a0_5) := (qw BK101.out 5).trans rfl;have hcz20_6 : w19.cell? ⟨gb101,6,none⟩ = some (.string a0_6) := (qw BK101.out 6).trans rfl;have hfz20_0 := qv BK101.out 0;have hfz20_1 := qv BK101.out 1;have hfz20_2 := qv BK101.out 2;have hfz20_3 := qv BK101.out 3;have hfz20_4 := qv BK101.out 4;have hfz20_5 := qv BK101.out 5;have hfz20_6 := qv BK101.out 6) | ((with_reducible refine jv (f := 20) rfl ?_);refine goesL_ (some 4) rfl rfl Tryz.func20 (by kernel_rfl) rfl #[.agg #[.string a0_0,.int .i64 a0_1,.string a0_2,.int .i64 a0_3,.int .i64 a0_4,.string a0_5,.string a0_6]] rfl (by (try simp only [List.map_toArray,List.map_cons,List.map_nil]);first | done | rfl | (simp only [List.length_drop,List.length_take];rfl)) ?_;(with_reducible refine (xj.calls k a0_0 a0_1 a0_2 a0_3 a0_4 a0_5 a0_6 false _ A2.out).mono ?_);rintro e w21 ⟨rfl,hb⟩;refine ⟨_,rfl,?_⟩;have n0_ := qq.mk (jx (g := gb101) (o := .cells #[.string a0_0,.int .i64 a0_1,.string a0_2,.int .i64 a0_3,.int .i64 a0_4,.string a0_5,.string a0_6] 30 (0,0)) (by (with_reducible repeat (first | refine zz ?_ _ | refine zj ?_ | refine zq ?_ _));exact BK101.out) hb);have n1_ := qq.mk (zv (by repeat (first | (with_reducible first | exact HB.out | apply qj | apply qz | apply qk | refine qx ?_ GE101.out) | exact HB.out)) hb);clear BK101;clear HB;have BK101 := n0_;have HB := n1_;clear n0_ n1_;(try clear hb);(try clear hb2);(try clear hk);(try clear hi)))
  go_ret
  exact ⟨by first | rfl | (simp [*,jk,jj] <;> rfl),by repeat (first | (with_reducible first | exact HB.out | apply qj | apply qz | apply qk | refine qx ?_ GE101.out) | exact HB.out)⟩
def wj.f (a0_0 : Int) (a0_1 : Int) (a0_2 : ByteArray) (a0_3 : ByteArray) (a1 : Int) : Option (Int) := if (wrap64 (a1 - (a0_2.size : Int))) < 0 then (some (-1)) else (if (wrap64 ((wrap64 (a1 - (a0_2.size : Int))) - (a0_3.size : Int))) < 0 then (some (-1)) else (some (wrap64 ((wrap64 (a1 - (a0_2.size : Int))) - (a0_3.size : Int)))))
set_option maxHeartbeats 8000000 in
set_option maxRecDepth 100000 in
theorem wj.calls (a0_0 : Int) (a0_1 : Int) (a0_2 : ByteArray) (a0_3 : ByteArray) (a1 : Int) (r : Int) (w : World) (h : wj.f a0_0 a0_1 a0_2 a0_3 a1 = some r) :
  Calls Tryz.prog 19 #[.agg #[.int .i64 a0_0,.int .i64 a0_1,.string a0_2,.string a0_3],.int .i64 a1] w fun e w' => e = .returned (.int .i64 r) ∧ Below w.heap.size w w' := by
 have hu23 := Tryz.underlying23
 have HB := qq.mk (Below.refl w.heap.size w)
 have H : (if (wrap64 (a1 - (a0_2.size : Int))) < 0 then (some (-1)) else (if (wrap64 ((wrap64 (a1 - (a0_2.size : Int))) - (a0_3.size : Int))) < 0 then (some (-1)) else (some (wrap64 ((wrap64 (a1 - (a0_2.size : Int))) - (a0_3.size : Int)))))) = some r := h
 clear h
 by_cases c3 : (wrap64 (a1 - (a0_2.size : Int))) < 0
 ·rw [if_pos c3] at H
  have c3b0 : decide ((wrap64 (a1 - (a0_2.size : Int))) < 0) = true := decide_eq_true c3
  clear c3
  obtain rfl := Option.some.inj H
  go_enter Tryz.func19,Tryz.ntmps19
  go_wp2_with (first | ((with_reducible refine gate_dst (N := 2) rfl ?_);refine box_event ?hg (N := 2) ?hd (cs := #[.int .i64 a0_0,.int .i64 a0_1,.string a0_2,.string a0_3]) (t := 23) ?hr ?_;(case hd => rfl);(case hg => rfl);(case hr => first | (go_simp;done) | (go_simp;rfl));intro gb101 hg w4 hbox hb;have n0_ := qq.mk (zv (by repeat (first | (with_reducible first | exact HB.out | apply qj | apply qz | apply qk) | exact HB.out)) hb);have n1_ := qq.mk (hbox);have n2_ := qq.mk ((by rw [hg];exact (zw (by repeat (first | (with_reducible first | exact HB.out | apply qj | apply qz | apply qk) | exact HB.out))) : w.heap.size ≤ gb101));have n3_ := qq.mk ((by rw [hg];exact (zw (by repeat (first | (with_reducible first | exact HB.out | apply qj | apply qz | apply qk) | exact HB.out))) : w.heap.size ≤ gb101));clear HB;have HB := n0_;have BK101 := n1_;have GW101 := n2_;have GE101 := n3_;clear n0_ n1_ n2_ n3_;clear hb hbox hg;have hcz5_0 : w4.cell? ⟨gb101,0,none⟩ = some (.int .i64 a0_0) := (qw BK101.out 0).trans rfl;have hcz5_1 : w4.cell? ⟨gb101,1,none⟩ = some (.int .i64 a0_1) := (qw BK101.out 1).trans rfl;have hcz5_2 : w4.cell? ⟨gb101,2,none⟩ = some (.string a0_2) := (qw BK101.out 2).trans rfl;have hcz5_3 : w4.cell? ⟨gb101,3,none⟩ = some (.string a0_3) := (qw BK101.out 3).trans rfl;have hfz5_0 := qv BK101.out 0;have hfz5_1 := qv BK101.out 1;have hfz5_2 := qv BK101.out 2;have hfz5_3 := qv BK101.out 3))
  go_ret
  exact ⟨by first | rfl | (simp [*,jk,jj] <;> rfl),by repeat (first | (with_reducible first | exact HB.out | apply qj | apply qz | apply qk | refine qx ?_ GE101.out) | exact HB.out)⟩
 ·rw [if_neg c3] at H
  have c3b0 : decide ((wrap64 (a1 - (a0_2.size : Int))) < 0) = false := decide_eq_false c3
  clear c3
  by_cases c6 : (wrap64 ((wrap64 (a1 - (a0_2.size : Int))) - (a0_3.size : Int))) < 0
  ·rw [if_pos c6] at H
   have c6b0 : decide ((wrap64 ((wrap64 (a1 - (a0_2.size : Int))) - (a0_3.size : Int))) < 0) = true := decide_eq_true c6
   clear c6
   obtain rfl := Option.some.inj H
   go_enter Tryz.func19,Tryz.ntmps19
   go_wp2_with (first | ((with_reducible refine gate_dst (N := 2) rfl ?_);refine box_event ?hg (N := 2) ?hd (cs := #[.int .i64 a0_0,.int .i64 a0_1,.string a0_2,.string a0_3]) (t := 23) ?hr ?_;(case hd => rfl);(case hg => rfl);(case hr => first | (go_simp;done) | (go_simp;rfl));intro gb101 hg w7 hbox hb;have n0_ := qq.mk (zv (by repeat (first | (with_reducible first | exact HB.out | apply qj | apply qz | apply qk) | exact HB.out)) hb);have n1_ := qq.mk (hbox);have n2_ := qq.mk ((by rw [hg];exact (zw (by repeat (first | (with_reducible first | exact HB.out | apply qj | apply qz | apply qk) | exact HB.out))) : w.heap.size ≤ gb101));have n3_ := qq.mk ((by rw [hg];exact (zw (by repeat (first | (with_reducible first | exact HB.out | apply qj | apply qz | apply qk) | exact HB.out))) : w.heap.size ≤ gb101));clear HB;have HB := n0_;have BK101 := n1_;have GW101 := n2_;have GE101 := n3_;clear n0_ n1_ n2_ n3_;clear hb hbox hg;have hcz8_0 : w7.cell? ⟨gb101,0,none⟩ = some (.int .i64 a0_0) := (qw BK101.out 0).trans rfl;have hcz8_1 : w7.cell? ⟨gb101,1,none⟩ = some (.int .i64 a0_1) := (qw BK101.out 1).trans rfl;have hcz8_2 : w7.cell? ⟨gb101,2,none⟩ = some (.string a0_2) := (qw BK101.out 2).trans rfl;have hcz8_3 : w7.cell? ⟨gb101,3,none⟩ = some (.string a0_3) := (qw BK101.out 3).trans rfl;have hfz8_0 := qv BK101.out 0;have hfz8_1 := qv BK101.out 1;have hfz8_2 := qv BK101.out 2;have hfz8_3 := qv BK101.out 3))
   go_ret
   exact ⟨by first | rfl | (simp [*,jk,jj] <;> rfl),by repeat (first | (with_reducible first | exact HB.out | apply qj | apply qz | apply qk | refine qx ?_ GE101.out) | exact HB.out)⟩
  ·rw [if_neg c6] at H
   have c6b0 : decide ((wrap64 ((wrap64 (a1 - (a0_2.size : Int))) - (a0_3.size : Int))) < 0) = false := decide_eq_false c6
   clear c6
   obtain rfl := Option.some.inj H
   go_enter Tryz.func19,Tryz.ntmps19
   go_wp2_with (first | ((with_reducible refine gate_dst (N := 2) rfl ?_);refine box_event ?hg (N := 2) ?hd (cs := #[.int .i64 a0_0,.int .i64 a0_1,.string a0_2,.string a0_3]) (t := 23) ?hr ?_;(case hd => rfl);(case hg => rfl);(case hr => first | (go_simp;done) | (go_simp;rfl));intro gb101 hg w9 hbox hb;have n0_ := qq.mk (zv (by repeat (first | (with_reducible first | exact HB.out | apply qj | apply qz | apply qk) | exact HB.out)) hb);have n1_ := qq.mk (hbox);have n2_ := qq.mk ((by rw [hg];exact (zw (by repeat (first | (with_reducible first | exact HB.out | apply qj | apply qz | apply qk) | exact HB.out))) : w.heap.size ≤ gb101));have n3_ := qq.mk ((by rw [hg];exact (zw (by repeat (first | (with_reducible first | exact HB.out | apply qj | apply qz | apply qk) | exact HB.out))) : w.heap.size ≤ gb101));clear HB;have HB := n0_;have BK101 := n1_;have GW101 := n2_;have GE101 := n3_;clear n0_ n1_ n2_ n3_;clear hb hbox hg;have hcz10_0 : w9.cell? ⟨gb101,0,none⟩ = some (.int .i64 a0_0) := (qw BK101.out 0).trans rfl;have hcz10_1 : w9.cell? ⟨gb101,1,none⟩ = some (.int .i64 a0_1) := (qw BK101.out 1).trans rfl;have hcz10_2 : w9.cell? ⟨gb101,2,none⟩ = some (.string a0_2) := (qw BK101.out 2).trans rfl;have hcz10_3 : w9.cell? ⟨gb101,3,none⟩ = some (.string a0_3) := (qw BK101.out 3).trans rfl;have hfz10_0 := qv BK101.out 0;have hfz10_1 := qv BK101.out 1;have hfz10_2 := qv BK101.out 2;have hfz10_3 := qv BK101.out 3))
   go_ret
   exact ⟨by first | rfl | (simp [*,jk,jj] <;> rfl),by repeat (first | (with_reducible first | exact HB.out | apply qj | apply qz | apply qk | refine qx ?_ GE101.out) | exact HB.out)⟩
def wv.f (a0_0 : Int) (a0_1 : Int) (a0_2 : ByteArray) (a0_3 : ByteArray) : Option (Int × Int × ByteArray × ByteArray) := some (a0_0,a0_1,a0_2,a0_3)
set_option maxHeartbeats 8000000 in
set_option maxRecDepth 100000 in
theorem wv.calls (a0_0 : Int) (a0_1 : Int) (a0_2 : ByteArray) (a0_3 : ByteArray) (r1 : Int) (r2 : Int) (r3 : ByteArray) (r4 : ByteArray) (w : World) (h : wv.f a0_0 a0_1 a0_2 a0_3 = some (r1,r2,r3,r4)) :
  Calls Tryz.prog 23 #[.agg #[.int .i64 a0_0,.int .i64 a0_1,.string a0_2,.string a0_3]] w fun e w' => e = .returned (.agg #[.int .i64 r1,.int .i64 r2,.string r3,.string r4]) ∧ Below w.heap.size w w' := by
 have hu23 := Tryz.underlying23
 have hu28 := Tryz.underlying28
 have HB := qq.mk (Below.refl w.heap.size w)
 have H : (some (a0_0,a0_1,a0_2,a0_3)) = some (r1,r2,r3,r4) := h
 clear h
 simp only [Option.some.injEq,Prod.mk.injEq] at H
 obtain ⟨rfl,rfl,rfl,rfl⟩ := H
 go_enter Tryz.func23,Tryz.ntmps23
 go_wp2_with (first | ((with_reducible refine gate_dst (N := 1) rfl ?_);refine box_event ?hg (N := 1) ?hd (cs := #[.int .i64 a0_0,.int .i64 a0_1,.string a0_2,.string a0_3]) (t := 23) ?hr ?_;(case hd => rfl);(case hg => rfl);(case hr => first | (go_simp;done) | (go_simp;rfl));intro gb101 hg w2 hbox hb;have n0_ := qq.mk (zv (by repeat (first | (with_reducible first | exact HB.out | apply qj | apply qz | apply qk) | exact HB.out)) hb);have n1_ := qq.mk (hbox);have n2_ := qq.mk ((by rw [hg];exact (zw (by repeat (first | (with_reducible first | exact HB.out | apply qj | apply qz | apply qk) | exact HB.out))) : w.heap.size ≤ gb101));have n3_ := qq.mk ((by rw [hg];exact (zw (by repeat (first | (with_reducible first | exact HB.out | apply qj | apply qz | apply qk) | exact HB.out))) : w.heap.size ≤ gb101));clear HB;have HB := n0_;have BK101 := n1_;have GW101 := n2_;have GE101 := n3_;clear n0_ n1_ n2_ n3_;clear hb hbox hg) | ((with_reducible refine gate_dst (N := 2) rfl ?_);refine box_event ?hg (N := 2) ?hd (cs := #[.int .i64 0,.int .i64 0,.string (⟨#[]⟩ : ByteArray),.string (⟨#[]⟩ : ByteArray)]) (t := 28) ?hr ?_;(case hd => rfl);(case hg => rfl);(case hr => first | (go_simp;done) | (go_simp;rfl));intro gb102 hg w3 hbox hb;have n0_ := qq.mk (jx (g := gb101) (o := .cells #[.int .i64 a0_0,.int .i64 a0_1,.string a0_2,.string a0_3] 23 (0,0)) (by (with_reducible repeat (first | refine zz ?_ _ | refine zj ?_ | refine zq ?_ _));exact BK101.out) hb);have n1_ := qq.mk (zv (by repeat (first | (with_reducible first | exact HB.out | apply qj | apply qz | apply qk | refine qx ?_ GE101.out) | exact HB.out)) hb);have n2_ := qq.mk (hbox);have n3_ := qq.mk ((by rw [hg];exact (zw (by repeat (first | (with_reducible first | exact HB.out | apply qj | apply qz | apply qk | refine qx ?_ GE101.out) | exact HB.out))) : w.heap.size ≤ gb102));have n4_ := qq.mk ((by rw [hg];exact (zw (by repeat (first | (with_reducible first | exact HB.out | apply qj | apply qz | apply qk | refine qx ?_ GE101.out) | exact HB.out))) : w.heap.size ≤ gb102));have n5_ := qq.mk ((by rw [hg];exact Nat.ne_of_lt (blk_lt (g := gb101) (o := .cells #[.int .i64 a0_0,.int .i64 a0_1,.string a0_2,.string a0_3] 23 (0,0)) (by (with_reducible repeat (first | refine zz ?_ _ | refine zj ?_ | refine zq ?_ _));exact BK101.out)) : gb101 ≠ gb102));have n6_ := qq.mk ((by rw [hg];exact Nat.ne_of_gt (blk_lt (g := gb101) (o := .cells #[.int .i64 a0_0,.int .i64 a0_1,.string a0_2,.string a0_3] 23 (0,0)) (by (with_reducible repeat (first | refine zz ?_ _ | refine zj ?_ | refine zq ?_ _));exact BK101.out)) : gb102 ≠ gb101));clear BK101;clear HB;have BK101 := n0_;have HB := n1_;have BK102 := n2_;have GW102 := n3_;have GE102 := n4_;have NB101_102 := n5_;have NB102_101 := n6_;clear n0_ n1_ n2_ n3_ n4_ n5_ n6_;clear hb hbox hg) | ((with_reducible refine gate_dst (N := 3) rfl ?_);refine box_event ?hg (N := 3) ?hd (cs := #[.int .i64 0,.int .i64 0,.string (⟨#[]⟩ : ByteArray),.string (⟨#[]⟩ : ByteArray)]) (t := 28) ?hr ?_;(case hd => rfl);(case hg => rfl);(case hr => first | (go_simp;done) | (go_simp;rfl));intro gb103 hg w4 hbox hb;have n0_ := qq.mk (jx (g := gb101) (o := .cells #[.int .i64 a0_0,.int .i64 a0_1,.string a0_2,.string a0_3] 23 (0,0)) (by (with_reducible repeat (first | refine zz ?_ _ | refine zj ?_ | refine zq ?_ _));exact BK101.out) hb);have n1_ := qq.mk (jx (g := gb102) (o := .cells #[.int .i64 0,.int .i64 0,.string (⟨#[]⟩ : ByteArray),.string (⟨#[]⟩ : ByteArray)] 28 (0,0)) (by (with_reducible repeat (first | refine zz ?_ _ | refine zj ?_ | refine zq ?_ _));exact BK102.out) hb);have n2_ := qq.mk (zv (by repeat (first | (with_reducible first | exact HB.out | apply qj | apply qz | apply qk | refine qx ?_ GE101.out | refine qx ?_ GE102.out) | exact HB.out)) hb);have n3_ := qq.mk (hbox);have n4_ := qq.mk ((by rw [hg];exact (zw (by repeat (first | (with_reducible first | exact HB.out | apply qj | apply qz | apply qk | refine qx ?_ GE101.out | refine qx ?_ GE102.out) | exact HB.out))) : w.heap.size ≤ gb103));have n5_ := qq.mk ((by rw [hg];exact (zw (by repeat (first | (with_reducible first | exact HB.out | apply qj | apply qz | apply qk | refine qx ?_ GE101.out | refine qx ?_ GE102.out) | exact HB.out))) : w.heap.size ≤ gb103));have n6_ := qq.mk ((by rw [hg];exact Nat.ne_of_lt (blk_lt (g := gb101) (o := .cells #[.int .i64 a0_0,.int .i64 a0_1,.string a0_2,.string a0_3] 23 (0,0)) (by (with_reducible repeat (first | refine zz ?_ _ | refine zj ?_ | refine zq ?_ _));exact BK101.out)) : gb101 ≠ gb103));have n7_ := qq.mk ((by rw [hg];exact Nat.ne_of_gt (blk_lt (g := gb101) (o := .cells #[.int .i64 a0_0,.int .i64 a0_1,.string a0_2,.string a0_3] 23 (0,0)) (by (with_reducible repeat (first | refine zz ?_ _ | refine zj ?_ | refine zq ?_ _));exact BK101.out)) : gb103 ≠ gb101));have n8_ := qq.mk ((by rw [hg];exact Nat.ne_of_lt (blk_lt (g := gb102) (o := .cells #[.int .i64 0,.int .i64 0,.string (⟨#[]⟩ : ByteArray),.string (⟨#[]⟩ : ByteArray)] 28 (0,0)) (by (with_reducible repeat (first | refine zz ?_ _ | refine zj ?_ | refine zq ?_ _));exact BK102.out)) : gb102 ≠ gb103));have n9_ := qq.mk ((by rw [hg];exact Nat.ne_of_gt (blk_lt (g := gb102) (o := .cells #[.int .i64 0,.int .i64 0,.string (⟨#[]⟩ : ByteArray),.string (⟨#[]⟩ : ByteArray)] 28 (0,0)) (by (with_reducible repeat (first | refine zz ?_ _ | refine zj ?_ | refine zq ?_ _));exact BK102.out)) : gb103 ≠ gb102));clear BK101;clear BK102;clear HB;have BK101 := n0_;have BK102 := n1_;have HB := n2_;have BK103 := n3_;have GW103 := n4_;have GE103 := n5_;have NB101_103 := n6_;have NB103_101 := n7_;have NB102_103 := n8_;have NB103_102 := n9_;clear n0_ n1_ n2_ n3_ n4_ n5_ n6_ n7_ n8_ n9_;clear hb hbox hg;have hnb5 := NB101_102.out;have hnc5 := NB102_101.out;have hnb6 := NB101_103.out;have hnc6 := NB103_101.out;have hcz7_0 : w4.cell? ⟨gb101,0,none⟩ = some (.int .i64 a0_0) := (qw BK101.out 0).trans rfl;have hcz7_1 : w4.cell? ⟨gb101,1,none⟩ = some (.int .i64 a0_1) := (qw BK101.out 1).trans rfl;have hcz7_2 : w4.cell? ⟨gb101,2,none⟩ = some (.string a0_2) := (qw BK101.out 2).trans rfl;have hcz7_3 : w4.cell? ⟨gb101,3,none⟩ = some (.string a0_3) := (qw BK101.out 3).trans rfl;have hfz7_0 := qv BK101.out 0;have hfz7_1 := qv BK101.out 1;have hfz7_2 := qv BK101.out 2;have hfz7_3 := qv BK101.out 3;have hnb8 := NB103_102.out;have hnc8 := NB102_103.out;have hcz9_0 : w4.cell? ⟨gb103,0,none⟩ = some (.int .i64 0) := (qw BK103.out 0).trans rfl;have hcz9_1 : w4.cell? ⟨gb103,1,none⟩ = some (.int .i64 0) := (qw BK103.out 1).trans rfl;have hcz9_2 : w4.cell? ⟨gb103,2,none⟩ = some (.string (⟨#[]⟩ : ByteArray)) := (qw BK103.out 2).trans rfl;have hcz9_3 : w4.cell? ⟨gb103,3,none⟩ = some (.string (⟨#[]⟩ : ByteArray)) := (qw BK103.out 3).trans rfl;have hfz9_0 := qv BK103.out 0;have hfz9_1 := qv BK103.out 1;have hfz9_2 := qv BK103.out 2;have hfz9_3 := qv BK103.out 3;have hcz10_0 : w4.cell? ⟨gb102,0,none⟩ = some (.int .i64 0) := (qw BK102.out 0).trans rfl;have hcz10_1 : w4.cell? ⟨gb102,1,none⟩ = some (.int .i64 0) := (qw BK102.out 1).trans rfl;have hcz10_2 : w4.cell? ⟨gb102,2,none⟩ = some (.string (⟨#[]⟩ : ByteArray)) := (qw BK102.out 2).trans rfl;have hcz10_3 : w4.cell? ⟨gb102,3,none⟩ = some (.string (⟨#[]⟩ : ByteArray)) := (qw BK102.out 3).trans rfl;have hfz10_0 := qv BK102.out 0;have hfz10_1 := qv BK102.out 1;have hfz10_2 := qv BK102.out 2;have hfz10_3 := qv BK102.out 3))
 refine bodyPost_ret (results_cell_row rfl _ _ gb102 28 #[.int .i64 a0_0,.int .i64 a0_1,.string a0_2,.string a0_3] (0,0) _ rfl (by (with_reducible repeat (first | refine zz ?_ _ | refine zj ?_ | refine zq ?_ _));refine blk_put (cs := #[.int .i64 a0_0,.int .i64 a0_1,.string a0_2,.string (⟨#[]⟩ : ByteArray)]) ?_ 3 _ rfl;(with_reducible repeat (first | refine zz ?_ _ | refine zj ?_ | refine zq ?_ _));refine blk_put (cs := #[.int .i64 a0_0,.int .i64 a0_1,.string (⟨#[]⟩ : ByteArray),.string (⟨#[]⟩ : ByteArray)]) ?_ 2 _ rfl;(with_reducible repeat (first | refine zz ?_ _ | refine zj ?_ | refine zq ?_ _));refine blk_put (cs := #[.int .i64 a0_0,.int .i64 0,.string (⟨#[]⟩ : ByteArray),.string (⟨#[]⟩ : ByteArray)]) ?_ 1 _ rfl;(with_reducible repeat (first | refine zz ?_ _ | refine zj ?_ | refine zq ?_ _));refine blk_put (cs := #[.int .i64 0,.int .i64 0,.string (⟨#[]⟩ : ByteArray),.string (⟨#[]⟩ : ByteArray)]) ?_ 0 _ rfl;(with_reducible repeat (first | refine zz ?_ _ | refine zj ?_ | refine zq ?_ _));refine blk_far ?_ NB102_103.out _;(with_reducible repeat (first | refine zz ?_ _ | refine zj ?_ | refine zq ?_ _));refine blk_far ?_ NB102_103.out _;(with_reducible repeat (first | refine zz ?_ _ | refine zj ?_ | refine zq ?_ _));refine blk_far ?_ NB102_103.out _;(with_reducible repeat (first | refine zz ?_ _ | refine zj ?_ | refine zq ?_ _));refine blk_far ?_ NB102_103.out _;(with_reducible repeat (first | refine zz ?_ _ | refine zj ?_ | refine zq ?_ _));exact BK102.out) Tryz.underlying28 rfl (by kernel_rfl)) rfl ?_
 exact ⟨by first | rfl | (simp [*,jk,jj] <;> rfl),by repeat (first | (with_reducible first | exact HB.out | apply qj | apply qz | apply qk | refine qx ?_ GE101.out | refine qx ?_ GE102.out | refine qx ?_ GE103.out) | exact HB.out)⟩
def wk.f (a0_0 : ByteArray) (a0_1 : Int) (a0_2 : ByteArray) (a0_3 : Int) (a0_4 : Int) (a0_5 : ByteArray) (a0_6 : ByteArray) (a1 : Int) : Option (Int) := if (wrap64 (a1 - (a0_0.size : Int))) < 0 then (some (-1)) else (if (wrap64 ((wrap64 (a1 - (a0_0.size : Int))) - (a0_2.size : Int))) < 0 then (some (-1)) else ((wj.f a0_3 a0_4 a0_5 a0_6 (wrap64 ((wrap64 (a1 - (a0_0.size : Int))) - (a0_2.size : Int)))).bind fun t102 => (if t102 < 0 then (some (-1)) else (some t102))))
set_option maxHeartbeats 8000000 in
set_option maxRecDepth 100000 in
theorem wk.calls (a0_0 : ByteArray) (a0_1 : Int) (a0_2 : ByteArray) (a0_3 : Int) (a0_4 : Int) (a0_5 : ByteArray) (a0_6 : ByteArray) (a1 : Int) (r : Int) (w : World) (h : wk.f a0_0 a0_1 a0_2 a0_3 a0_4 a0_5 a0_6 a1 = some r) :
  Calls Tryz.prog 6 #[.agg #[.string a0_0,.int .i64 a0_1,.string a0_2,.int .i64 a0_3,.int .i64 a0_4,.string a0_5,.string a0_6],.int .i64 a1] w fun e w' => e = .returned (.int .i64 r) ∧ Below w.heap.size w w' := by
 have hu25 := Tryz.underlying25
 have hu23 := Tryz.underlying23
 have HB := qq.mk (Below.refl w.heap.size w)
 have H : (if (wrap64 (a1 - (a0_0.size : Int))) < 0 then (some (-1)) else (if (wrap64 ((wrap64 (a1 - (a0_0.size : Int))) - (a0_2.size : Int))) < 0 then (some (-1)) else ((wj.f a0_3 a0_4 a0_5 a0_6 (wrap64 ((wrap64 (a1 - (a0_0.size : Int))) - (a0_2.size : Int)))).bind fun t102 => (if t102 < 0 then (some (-1)) else (some t102))))) = some r := h
 clear h
 by_cases c3 : (wrap64 (a1 - (a0_0.size : Int))) < 0
 ·rw [if_pos c3] at H
  have c3b0 : decide ((wrap64 (a1 - (a0_0.size : Int))) < 0) = true := decide_eq_true c3
  clear c3
  obtain rfl := Option.some.inj H
  go_enter Tryz.func6,Tryz.ntmps6
  go_wp2_with (first | ((with_reducible refine gate_dst (N := 2) rfl ?_);refine box_event ?hg (N := 2) ?hd (cs := #[.string a0_0,.int .i64 a0_1,.string a0_2,.int .i64 a0_3,.int .i64 a0_4,.string a0_5,.string a0_6]) (t := 25) ?hr ?_;(case hd => rfl);(case hg => rfl);(case hr => first | (go_simp;done) | (go_simp;rfl));intro gb101 hg w4 hbox hb;have n0_ := qq.mk (zv (by repeat (first | (with_reducible first | exact HB.out | apply qj | apply qz | apply qk) | exact HB.out)) hb);have n1_ := qq.mk (hbox);have n2_ := qq.mk ((by rw [hg];exact (zw (by repeat (first | (with_reducible first | exact HB.out | apply qj | apply qz | apply qk) | exact HB.out))) : w.heap.size ≤ gb101));have n3_ := qq.mk ((by rw [hg];exact (zw (by repeat (first | (with_reducible first | exact HB.out | apply qj | apply qz | apply qk) | exact HB.out))) : w.heap.size ≤ gb101));clear HB;have HB := n0_;have BK101 := n1_;have GW101 := n2_;have GE101 := n3_;clear n0_ n1_ n2_ n3_;clear hb hbox hg;have hcz5_0 : w4.cell? ⟨gb101,0,none⟩ = some (.string a0_0) := (qw BK101.out 0).trans rfl;have hcz5_1 : w4.cell? ⟨gb101,1,none⟩ = some (.int .i64 a0_1) := (qw BK101.out 1).trans rfl;have hcz5_2 : w4.cell? ⟨gb101,2,none⟩ = some (.string a0_2) := (qw BK101.out 2).trans rfl;have hcz5_3 : w4.cell? ⟨gb101,3,none⟩ = some (.int .i64 a0_3) := (qw BK101.out 3).trans rfl;have hcz5_4 : w4.cell? ⟨gb101,4,none⟩ = some (.int .i64 a0_4) := (qw BK101.out 4).trans rfl;have hcz5_5 : w4.cell? ⟨gb101,5,none⟩ = some (.string a0_5) := (qw BK101.out 5).trans rfl;have hcz5_6 : w4.cell? ⟨gb101,6,none⟩ = some (.string a0_6) := (qw BK101.out 6).trans rfl;have hfz5_0 := qv BK101.out 0;have hfz5_1 := qv BK101.out 1;have hfz5_2 := qv BK101.out 2;have hfz5_3 := qv BK101.out 3;have hfz5_4 := qv BK101.out 4;have hfz5_5 := qv BK101.out 5;have hfz5_6 := qv BK101.out 6))
  go_ret
  exact ⟨by first | rfl | (simp [*,jk,jj] <;> rfl),by repeat (first | (with_reducible first | exact HB.out | apply qj | apply qz | apply qk | refine qx ?_ GE101.out) | exact HB.out)⟩
 ·rw [if_neg c3] at H
  have c3b0 : decide ((wrap64 (a1 - (a0_0.size : Int))) < 0) = false := decide_eq_false c3
  clear c3
  by_cases c6 : (wrap64 ((wrap64 (a1 - (a0_0.size : Int))) - (a0_2.size : Int))) < 0
  ·rw [if_pos c6] at H
   have c6b0 : decide ((wrap64 ((wrap64 (a1 - (a0_0.size : Int))) - (a0_2.size : Int))) < 0) = true := decide_eq_true c6
   clear c6
   obtain rfl := Option.some.inj H
   go_enter Tryz.func6,Tryz.ntmps6
   go_wp2_with (first | ((with_reducible refine gate_dst (N := 2) rfl ?_);refine box_event ?hg (N := 2) ?hd (cs := #[.string a0_0,.int .i64 a0_1,.string a0_2,.int .i64 a0_3,.int .i64 a0_4,.string a0_5,.string a0_6]) (t := 25) ?hr ?_;(case hd => rfl);(case hg => rfl);(case hr => first | (go_simp;done) | (go_simp;rfl));intro gb101 hg w7 hbox hb;have n0_ := qq.mk (zv (by repeat (first | (with_reducible first | exact HB.out | apply qj | apply qz | apply qk) | exact HB.out)) hb);have n1_ := qq.mk (hbox);have n2_ := qq.mk ((by rw [hg];exact (zw (by repeat (first | (with_reducible first | exact HB.out | apply qj | apply qz | apply qk) | exact HB.out))) : w.heap.size ≤ gb101));have n3_ := qq.mk ((by rw [hg];exact (zw (by repeat (first | (with_reducible first | exact HB.out | apply qj | apply qz | apply qk) | exact HB.out))) : w.heap.size ≤ gb101));clear HB;have HB := n0_;have BK101 := n1_;have GW101 := n2_;have GE101 := n3_;clear n0_ n1_ n2_ n3_;clear hb hbox hg;have hcz8_0 : w7.cell? ⟨gb101,0,none⟩ = some (.string a0_0) := (qw BK101.out 0).trans rfl;have hcz8_1 : w7.cell? ⟨gb101,1,none⟩ = some (.int .i64 a0_1) := (qw BK101.out 1).trans rfl;have hcz8_2 : w7.cell? ⟨gb101,2,none⟩ = some (.string a0_2) := (qw BK101.out 2).trans rfl;have hcz8_3 : w7.cell? ⟨gb101,3,none⟩ = some (.int .i64 a0_3) := (qw BK101.out 3).trans rfl;have hcz8_4 : w7.cell? ⟨gb101,4,none⟩ = some (.int .i64 a0_4) := (qw BK101.out 4).trans rfl;have hcz8_5 : w7.cell? ⟨gb101,5,none⟩ = some (.string a0_5) := (qw BK101.out 5).trans rfl;have hcz8_6 : w7.cell? ⟨gb101,6,none⟩ = some (.string a0_6) := (qw BK101.out 6).trans rfl;have hfz8_0 := qv BK101.out 0;have hfz8_1 := qv BK101.out 1;have hfz8_2 := qv BK101.out 2;have hfz8_3 := qv BK101.out 3;have hfz8_4 := qv BK101.out 4;have hfz8_5 := qv BK101.out 5;have hfz8_6 := qv BK101.out 6))
   go_ret
   exact ⟨by first | rfl | (simp [*,jk,jj] <;> rfl),by repeat (first | (with_reducible first | exact HB.out | apply qj | apply qz | apply qk | refine qx ?_ GE101.out) | exact HB.out)⟩
  ·rw [if_neg c6] at H
   have c6b0 : decide ((wrap64 ((wrap64 (a1 - (a0_0.size : Int))) - (a0_2.size : Int))) < 0) = false := decide_eq_false c6
   clear c6
   replace H := Option.bind_eq_some_iff.mp H
   obtain ⟨t102,A90,H⟩ := H
   replace H : (if t102 < 0 then (some (-1)) else (some t102)) = some r := H
   have A9 := qq.mk A90
   clear A90
   by_cases c10 : t102 < 0
   ·rw [if_pos c10] at H
    have c10b0 : decide (t102 < 0) = true := decide_eq_true c10
    clear c10
    obtain rfl := Option.some.inj H
    go_enter Tryz.func6,Tryz.ntmps6
    go_wp2_with (first | ((with_reducible refine gate_dst (N := 2) rfl ?_);refine box_event ?hg (N := 2) ?hd (cs := #[.string a0_0,.int .i64 a0_1,.string a0_2,.int .i64 a0_3,.int .i64 a0_4,.string a0_5,.string a0_6]) (t := 25) ?hr ?_;(case hd => rfl);(case hg => rfl);(case hr => first | (go_simp;done) | (go_simp;rfl));intro gb101 hg w11 hbox hb;have n0_ := qq.mk (zv (by repeat (first | (with_reducible first | exact HB.out | apply qj | apply qz | apply qk) | exact HB.out)) hb);have n1_ := qq.mk (hbox);have n2_ := qq.mk ((by rw [hg];exact (zw (by repeat (first | (with_reducible first | exact HB.out | apply qj | apply qz | apply qk) | exact HB.out))) : w.heap.size ≤ gb101));have n3_ := qq.mk ((by rw [hg];exact (zw (by repeat (first | (with_reducible first | exact HB.out | apply qj | apply qz | apply qk) | exact HB.out))) : w.heap.size ≤ gb101));clear HB;have HB := n0_;have BK101 := n1_;have GW101 := n2_;have GE101 := n3_;clear n0_ n1_ n2_ n3_;clear hb hbox hg;have hcz12_0 : w11.cell? ⟨gb101,0,none⟩ = some (.string a0_0) := (qw BK101.out 0).trans rfl;have hcz12_1 : w11.cell? ⟨gb101,1,none⟩ = some (.int .i64 a0_1) := (qw BK101.out 1).trans rfl;have hcz12_2 : w11.cell? ⟨gb101,2,none⟩ = some (.string a0_2) := (qw BK101.out 2).trans rfl;have hcz12_3 : w11.cell? ⟨gb101,3,none⟩ = some (.int .i64 a0_3) := (qw BK101.out 3).trans rfl;have hcz12_4 : w11.cell? ⟨gb101,4,none⟩ = some (.int .i64 a0_4) := (qw BK101.out 4).trans rfl;have hcz12_5 : w11.cell? ⟨gb101,5,none⟩ = some (.string a0_5) := (qw BK101.out 5).trans rfl;have hcz12_6 : w11.cell? ⟨gb101,6,none⟩ = some (.string a0_6) := (qw BK101.out 6).trans rfl;have hfz12_0 := qv BK101.out 0;have hfz12_1 := qv BK101.out 1;have hfz12_2 := qv BK101.out 2;have hfz12_3 := qv BK101.out 3;have hfz12_4 := qv BK101.out 4;have hfz12_5 := qv BK101.out 5;have hfz12_6 := qv BK101.out 6) | ((with_reducible refine jv (f := 19) rfl ?_);refine goesL_ (some 22) rfl rfl Tryz.func19 (by kernel_rfl) rfl #[.agg #[.int .i64 a0_3,.int .i64 a0_4,.string a0_5,.string a0_6],.int .i64 (wrap64 ((wrap64 (a1 - (a0_0.size : Int))) - (a0_2.size : Int)))] rfl (by (try simp only [List.map_toArray,List.map_cons,List.map_nil]);first | done | rfl | (simp only [List.length_drop,List.length_take];rfl)) ?_;(with_reducible refine (wj.calls a0_3 a0_4 a0_5 a0_6 (wrap64 ((wrap64 (a1 - (a0_0.size : Int))) - (a0_2.size : Int))) t102 _ A9.out).mono ?_);rintro e w13 ⟨rfl,hb⟩;refine ⟨_,rfl,?_⟩;have n0_ := qq.mk (jx (g := gb101) (o := .cells #[.string a0_0,.int .i64 a0_1,.string a0_2,.int .i64 a0_3,.int .i64 a0_4,.string a0_5,.string a0_6] 25 (0,0)) (by (with_reducible repeat (first | refine zz ?_ _ | refine zj ?_ | refine zq ?_ _));exact BK101.out) hb);have n1_ := qq.mk (zv (by repeat (first | (with_reducible first | exact HB.out | apply qj | apply qz | apply qk | refine qx ?_ GE101.out) | exact HB.out)) hb);clear BK101;clear HB;have BK101 := n0_;have HB := n1_;clear n0_ n1_;(try clear hb);(try clear hb2);(try clear hk);(try clear hi)))
    go_ret
    exact ⟨by first | rfl | (simp [*,jk,jj] <;> rfl),by repeat (first | (with_reducible first | exact HB.out | apply qj | apply qz | apply qk | refine qx ?_ GE101.out) | exact HB.out)⟩
   ·rw [if_neg c10] at H
    have c10b0 : decide (t102 < 0) = false := decide_eq_false c10
    clear c10
    obtain rfl := Option.some.inj H
    go_enter Tryz.func6,Tryz.ntmps6
    go_wp2_with (first | ((with_reducible refine gate_dst (N := 2) rfl ?_);refine box_event ?hg (N := 2) ?hd (cs := #[.string a0_0,.int .i64 a0_1,.string a0_2,.int .i64 a0_3,.int .i64 a0_4,.string a0_5,.string a0_6]) (t := 25) ?hr ?_;(case hd => rfl);(case hg => rfl);(case hr => first | (go_simp;done) | (go_simp;rfl));intro gb101 hg w14 hbox hb;have n0_ := qq.mk (zv (by repeat (first | (with_reducible first | exact HB.out | apply qj | apply qz | apply qk) | exact HB.out)) hb);have n1_ := qq.mk (hbox);have n2_ := qq.mk ((by rw [hg];exact (zw (by repeat (first | (with_reducible first | exact HB.out | apply qj | apply qz | apply qk) | exact HB.out))) : w.heap.size ≤ gb101));have n3_ := qq.mk ((by rw [hg];exact (zw (by repeat (first | (with_reducible first | exact HB.out | apply qj | apply qz | apply qk) | exact HB.out))) : w.heap.size ≤ gb101));clear HB;have HB := n0_;have BK101 := n1_;have GW101 := n2_;have GE101 := n3_;clear n0_ n1_ n2_ n3_;clear hb hbox hg;have hcz15_0 : w14.cell? ⟨gb101,0,none⟩ = some (.string a0_0) := (qw BK101.out 0).trans rfl;have hcz15_1 : w14.cell? ⟨gb101,1,none⟩ = some (.int .i64 a0_1) := (qw BK101.out 1).trans rfl;have hcz15_2 : w14.cell? ⟨gb101,2,none⟩ = some (.string a0_2) := (qw BK101.out 2).trans rfl;have hcz15_3 : w14.cell? ⟨gb101,3,none⟩ = some (.int .i64 a0_3) := (qw BK101.out 3).trans rfl;have hcz15_4 : w14.cell? ⟨gb101,4,none⟩ = some (.int .i64 a0_4) := (qw BK101.out 4).trans rfl;have hcz15_5 : w14.cell? ⟨gb101,5,none⟩ = some (.string a0_5) := (qw BK101.out 5).trans rfl;have hcz15_6 : w14.cell? ⟨gb101,6,none⟩ = some (.string a0_6) := (qw BK101.out 6).trans rfl;have hfz15_0 := qv BK101.out 0;have hfz15_1 := qv BK101.out 1;have hfz15_2 := qv BK101.out 2;have hfz15_3 := qv BK101.out 3;have hfz15_4 := qv BK101.out 4;have hfz15_5 := qv BK101.out 5;have hfz15_6 := qv BK101.out 6) | ((with_reducible refine jv (f := 19) rfl ?_);refine goesL_ (some 22) rfl rfl Tryz.func19 (by kernel_rfl) rfl #[.agg #[.int .i64 a0_3,.int .i64 a0_4,.string a0_5,.string a0_6],.int .i64 (wrap64 ((wrap64 (a1 - (a0_0.size : Int))) - (a0_2.size : Int)))] rfl (by (try simp only [List.map_toArray,List.map_cons,List.map_nil]);first | done | rfl | (simp only [List.length_drop,List.length_take];rfl)) ?_;(with_reducible refine (wj.calls a0_3 a0_4 a0_5 a0_6 (wrap64 ((wrap64 (a1 - (a0_0.size : Int))) - (a0_2.size : Int))) t102 _ A9.out).mono ?_);rintro e w16 ⟨rfl,hb⟩;refine ⟨_,rfl,?_⟩;have n0_ := qq.mk (jx (g := gb101) (o := .cells #[.string a0_0,.int .i64 a0_1,.string a0_2,.int .i64 a0_3,.int .i64 a0_4,.string a0_5,.string a0_6] 25 (0,0)) (by (with_reducible repeat (first | refine zz ?_ _ | refine zj ?_ | refine zq ?_ _));exact BK101.out) hb);have n1_ := qq.mk (zv (by repeat (first | (with_reducible first | exact HB.out | apply qj | apply qz | apply qk | refine qx ?_ GE101.out) | exact HB.out)) hb);clear BK101;clear HB;have BK101 := n0_;have HB := n1_;clear n0_ n1_;(try clear hb);(try clear hb2);(try clear hk);(try clear hi)))
    go_ret
    exact ⟨by first | rfl | (simp [*,jk,jj] <;> rfl),by repeat (first | (with_reducible first | exact HB.out | apply qj | apply qz | apply qk | refine qx ?_ GE101.out) | exact HB.out)⟩
def ww.f (a0_0 : ByteArray) (a0_1 : Int) (a0_2 : ByteArray) (a0_3 : Int) (a0_4 : Int) (a0_5 : ByteArray) (a0_6 : ByteArray) : Option (ByteArray × Int × ByteArray × Int × Int × ByteArray × ByteArray) := (wv.f a0_3 a0_4 a0_5 a0_6).bind fun bt104 => (some (a0_0,a0_1,a0_2,bt104.1,bt104.2.1,bt104.2.2.1,bt104.2.2.2))
set_option maxHeartbeats 8000000 in
set_option maxRecDepth 100000 in
theorem ww.calls (a0_0 : ByteArray) (a0_1 : Int) (a0_2 : ByteArray) (a0_3 : Int) (a0_4 : Int) (a0_5 : ByteArray) (a0_6 : ByteArray) (r1 : ByteArray) (r2 : Int) (r3 : ByteArray) (r4 : Int) (r5 : Int) (r6 : ByteArray) (r7 : ByteArray) (w : World) (h : ww.f a0_0 a0_1 a0_2 a0_3 a0_4 a0_5 a0_6 = some (r1,r2,r3,r4,r5,r6,r7)) :
  Calls Tryz.prog 8 #[.agg #[.string a0_0,.int .i64 a0_1,.string a0_2,.int .i64 a0_3,.int .i64 a0_4,.string a0_5,.string a0_6]] w fun e w' => e = .returned (.agg #[.string r1,.int .i64 r2,.string r3,.int .i64 r4,.int .i64 r5,.string r6,.string r7]) ∧ Below w.heap.size w w' := by
 have hu25 := Tryz.underlying25
 have hu30 := Tryz.underlying30
 have hu23 := Tryz.underlying23
 have hu28 := Tryz.underlying28
 have HB := qq.mk (Below.refl w.heap.size w)
 have H : ((wv.f a0_3 a0_4 a0_5 a0_6).bind fun bt104 => (some (a0_0,a0_1,a0_2,bt104.1,bt104.2.1,bt104.2.2.1,bt104.2.2.2))) = some (r1,r2,r3,r4,r5,r6,r7) := h
 clear h
 replace H := Option.bind_eq_some_iff.mp H
 obtain ⟨⟨t104,t105,t106,t107⟩,A20,H⟩ := H
 replace H : (some (a0_0,a0_1,a0_2,t104,t105,t106,t107)) = some (r1,r2,r3,r4,r5,r6,r7) := H
 have A2 := qq.mk A20
 clear A20
 simp only [Option.some.injEq,Prod.mk.injEq] at H
 obtain ⟨rfl,rfl,rfl,rfl,rfl,rfl,rfl⟩ := H
 go_enter Tryz.func8,Tryz.ntmps8
 go_wp2_with (first | ((with_reducible refine gate_dst (N := 1) rfl ?_);refine box_event ?hg (N := 1) ?hd (cs := #[.string a0_0,.int .i64 a0_1,.string a0_2,.int .i64 a0_3,.int .i64 a0_4,.string a0_5,.string a0_6]) (t := 25) ?hr ?_;(case hd => rfl);(case hg => rfl);(case hr => first | (go_simp;done) | (go_simp;rfl));intro gb101 hg w3 hbox hb;have n0_ := qq.mk (zv (by repeat (first | (with_reducible first | exact HB.out | apply qj | apply qz | apply qk) | exact HB.out)) hb);have n1_ := qq.mk (hbox);have n2_ := qq.mk ((by rw [hg];exact (zw (by repeat (first | (with_reducible first | exact HB.out | apply qj | apply qz | apply qk) | exact HB.out))) : w.heap.size ≤ gb101));have n3_ := qq.mk ((by rw [hg];exact (zw (by repeat (first | (with_reducible first | exact HB.out | apply qj | apply qz | apply qk) | exact HB.out))) : w.heap.size ≤ gb101));clear HB;have HB := n0_;have BK101 := n1_;have GW101 := n2_;have GE101 := n3_;clear n0_ n1_ n2_ n3_;clear hb hbox hg) | ((with_reducible refine gate_dst (N := 2) rfl ?_);refine box_event ?hg (N := 2) ?hd (cs := #[.string (⟨#[]⟩ : ByteArray),.int .i64 0,.string (⟨#[]⟩ : ByteArray),.int .i64 0,.int .i64 0,.string (⟨#[]⟩ : ByteArray),.string (⟨#[]⟩ : ByteArray)]) (t := 30) ?hr ?_;(case hd => rfl);(case hg => rfl);(case hr => first | (go_simp;done) | (go_simp;rfl));intro gb102 hg w4 hbox hb;have n0_ := qq.mk (jx (g := gb101) (o := .cells #[.string a0_0,.int .i64 a0_1,.string a0_2,.int .i64 a0_3,.int .i64 a0_4,.string a0_5,.string a0_6] 25 (0,0)) (by (with_reducible repeat (first | refine zz ?_ _ | refine zj ?_ | refine zq ?_ _));exact BK101.out) hb);have n1_ := qq.mk (zv (by repeat (first | (with_reducible first | exact HB.out | apply qj | apply qz | apply qk | refine qx ?_ GE101.out) | exact HB.out)) hb);have n2_ := qq.mk (hbox);have n3_ := qq.mk ((by rw [hg];exact (zw (by repeat (first | (with_reducible first | exact HB.out | apply qj | apply qz | apply qk | refine qx ?_ GE101.out) | exact HB.out))) : w.heap.size ≤ gb102));have n4_ := qq.mk ((by rw [hg];exact (zw (by repeat (first | (with_reducible first | exact HB.out | apply qj | apply qz | apply qk | refine qx ?_ GE101.out) | exact HB.out))) : w.heap.size ≤ gb102));have n5_ := qq.mk ((by rw [hg];exact Nat.ne_of_lt (blk_lt (g := gb101) (o := .cells #[.string a0_0,.int .i64 a0_1,.string a0_2,.int .i64 a0_3,.int .i64 a0_4,.string a0_5,.string a0_6] 25 (0,0)) (by (with_reducible repeat (first | refine zz ?_ _ | refine zj ?_ | refine zq ?_ _));exact BK101.out)) : gb101 ≠ gb102));have n6_ := qq.mk ((by rw [hg];exact Nat.ne_of_gt (blk_lt (g := gb101) (o := .cells #[.string a0_0,.int .i64 a0_1,.string a0_2,.int .i64 a0_3,.int .i64 a0_4,.string a0_5,.string a0_6] 25 (0,0)) (by (with_reducible repeat (first | refine zz ?_ _ | refine zj ?_ | refine zq ?_ _));exact BK101.out)) : gb102 ≠ gb101));clear BK101;clear HB;have BK101 := n0_;have HB := n1_;have BK102 := n2_;have GW102 := n3_;have GE102 := n4_;have NB101_102 := n5_;have NB102_101 := n6_;clear n0_ n1_ n2_ n3_ n4_ n5_ n6_;clear hb hbox hg) | ((with_reducible refine gate_dst (N := 3) rfl ?_);refine box_event ?hg (N := 3) ?hd (cs := #[.string (⟨#[]⟩ : ByteArray),.int .i64 0,.string (⟨#[]⟩ : ByteArray),.int .i64 0,.int .i64 0,.string (⟨#[]⟩ : ByteArray),.string (⟨#[]⟩ : ByteArray)]) (t := 30) ?hr ?_;(case hd => rfl);(case hg => rfl);(case hr => first | (go_simp;done) | (go_simp;rfl));intro gb103 hg w5 hbox hb;have n0_ := qq.mk (jx (g := gb101) (o := .cells #[.string a0_0,.int .i64 a0_1,.string a0_2,.int .i64 a0_3,.int .i64 a0_4,.string a0_5,.string a0_6] 25 (0,0)) (by (with_reducible repeat (first | refine zz ?_ _ | refine zj ?_ | refine zq ?_ _));exact BK101.out) hb);have n1_ := qq.mk (jx (g := gb102) (o := .cells #[.string (⟨#[]⟩ : ByteArray),.int .i64 0,.string (⟨#[]⟩ : ByteArray),.int .i64 0,.int .i64 0,.string (⟨#[]⟩ : ByteArray),.string (⟨#[]⟩ : ByteArray)] 30 (0,0)) (by (with_reducible repeat (first | refine zz ?_ _ | refine zj ?_ | refine zq ?_ _));exact BK102.out) hb);have n2_ := qq.mk (zv (by repeat (first | (with_reducible first | exact HB.out | apply qj | apply qz | apply qk | refine qx ?_ GE101.out | refine qx ?_ GE102.out) | exact HB.out)) hb);have n3_ := qq.mk (hbox);have n4_ := qq.mk ((by rw [hg];exact (zw (by repeat (first | (with_reducible first | exact HB.out | apply qj | apply qz | apply qk | refine qx ?_ GE101.out | refine qx ?_ GE102.out) | exact HB.out))) : w.heap.size ≤ gb103));have n5_ := qq.mk ((by rw [hg];exact (zw (by repeat (first | (with_reducible first | exact HB.out | apply qj | apply qz | apply qk | refine qx ?_ GE101.out | refine qx ?_ GE102.out) | exact HB.out))) : w.heap.size ≤ gb103));have n6_ := qq.mk ((by rw [hg];exact Nat.ne_of_lt (blk_lt (g := gb101) (o := .cells #[.string a0_0,.int .i64 a0_1,.string a0_2,.int .i64 a0_3,.int .i64 a0_4,.string a0_5,.string a0_6] 25 (0,0)) (by (with_reducible repeat (first | refine zz ?_ _ | refine zj ?_ | refine zq ?_ _));exact BK101.out)) : gb101 ≠ gb103));have n7_ := qq.mk ((by rw [hg];exact Nat.ne_of_gt (blk_lt (g := gb101) (o := .cells #[.string a0_0,.int .i64 a0_1,.string a0_2,.int .i64 a0_3,.int .i64 a0_4,.string a0_5,.string a0_6] 25 (0,0)) (by (with_reducible repeat (first | refine zz ?_ _ | refine zj ?_ | refine zq ?_ _));exact BK101.out)) : gb103 ≠ gb101));have n8_ := qq.mk ((by rw [hg];exact Nat.ne_of_lt (blk_lt (g := gb102) (o := .cells #[.string (⟨#[]⟩ : ByteArray),.int .i64 0,.string (⟨#[]⟩ : ByteArray),.int .i64 0,.int .i64 0,.string (⟨#[]⟩ : ByteArray),.string (⟨#[]⟩ : ByteArray)] 30 (0,0)) (by (with_reducible repeat (first | refine zz ?_ _ | refine zj ?_ | refine zq ?_ _));exact BK102.out)) : gb102 ≠ gb103));have n9_ := qq.mk ((by rw [hg];exact Nat.ne_of_gt (blk_lt (g := gb102) (o := .cells #[.string (⟨#[]⟩ : ByteArray),.int .i64 0,.string (⟨#[]⟩ : ByteArray),.int .i64 0,.int .i64 0,.string (⟨#[]⟩ : ByteArray),.string (⟨#[]⟩ : ByteArray)] 30 (0,0)) (by (with_reducible repeat (first | refine zz ?_ _ | refine zj ?_ | refine zq ?_ _));exact BK102.out)) : gb103 ≠ gb102));clear BK101;clear BK102;clear HB;have BK101 := n0_;have BK102 := n1_;have HB := n2_;have BK103 := n3_;have GW103 := n4_;have GE103 := n5_;have NB101_103 := n6_;have NB103_101 := n7_;have NB102_103 := n8_;have NB103_102 := n9_;clear n0_ n1_ n2_ n3_ n4_ n5_ n6_ n7_ n8_ n9_;clear hb hbox hg;have hnb6 := NB101_102.out;have hnc6 := NB102_101.out;have hnb7 := NB101_103.out;have hnc7 := NB103_101.out;have hcz8_0 : w5.cell? ⟨gb101,0,none⟩ = some (.string a0_0) := (qw BK101.out 0).trans rfl;have hcz8_1 : w5.cell? ⟨gb101,1,none⟩ = some (.int .i64 a0_1) := (qw BK101.out 1).trans rfl;have hcz8_2 : w5.cell? ⟨gb101,2,none⟩ = some (.string a0_2) := (qw BK101.out 2).trans rfl;have hcz8_3 : w5.cell? ⟨gb101,3,none⟩ = some (.int .i64 a0_3) := (qw BK101.out 3).trans rfl;have hcz8_4 : w5.cell? ⟨gb101,4,none⟩ = some (.int .i64 a0_4) := (qw BK101.out 4).trans rfl;have hcz8_5 : w5.cell? ⟨gb101,5,none⟩ = some (.string a0_5) := (qw BK101.out 5).trans rfl;have hcz8_6 : w5.cell? ⟨gb101,6,none⟩ = some (.string a0_6) := (qw BK101.out 6).trans rfl;have hfz8_0 := qv BK101.out 0;have hfz8_1 := qv BK101.out 1;have hfz8_2 := qv BK101.out 2;have hfz8_3 := qv BK101.out 3;have hfz8_4 := qv BK101.out 4;have hfz8_5 := qv BK101.out 5;have hfz8_6 := qv BK101.out 6;have hnb9 := NB103_102.out;have hnc9 := NB102_103.out;have hcz10_0 : w5.cell? ⟨gb103,0,none⟩ = some (.string (⟨#[]⟩ : ByteArray)) := (qw BK103.out 0).trans rfl;have hcz10_1 : w5.cell? ⟨gb103,1,none⟩ = some (.int .i64 0) := (qw BK103.out 1).trans rfl;have hcz10_2 : w5.cell? ⟨gb103,2,none⟩ = some (.string (⟨#[]⟩ : ByteArray)) := (qw BK103.out 2).trans rfl;have hcz10_3 : w5.cell? ⟨gb103,3,none⟩ = some (.int .i64 0) := (qw BK103.out 3).trans rfl;have hcz10_4 : w5.cell? ⟨gb103,4,none⟩ = some (.int .i64 0) := (qw BK103.out 4).trans rfl;have hcz10_5 : w5.cell? ⟨gb103,5,none⟩ = some (.string (⟨#[]⟩ : ByteArray)) := (qw BK103.out 5).trans rfl;have hcz10_6 : w5.cell? ⟨gb103,6,none⟩ = some (.string (⟨#[]⟩ : ByteArray)) := (qw BK103.out 6).trans rfl;have hfz10_0 := qv BK103.out 0;have hfz10_1 := qv BK103.out 1;have hfz10_2 := qv BK103.out 2;have hfz10_3 := qv BK103.out 3;have hfz10_4 := qv BK103.out 4;have hfz10_5 := qv BK103.out 5;have hfz10_6 := qv BK103.out 6) | ((with_reducible refine jv (f := 23) rfl ?_);refine goesL_ (some 15) rfl rfl Tryz.func23 (by kernel_rfl) rfl #[.agg #[.int .i64 a0_3,.int .i64 a0_4,.string a0_5,.string a0_6]] rfl (by (try simp only [List.map_toArray,List.map_cons,List.map_nil]);first | done | rfl | (simp only [List.length_drop,List.length_take];rfl)) ?_;(with_reducible refine (wv.calls a0_3 a0_4 a0_5 a0_6 t104 t105 t106 t107 _ A2.out).mono ?_);rintro e w11 ⟨rfl,hb⟩;refine ⟨_,rfl,?_⟩;have n0_ := qq.mk (jx (g := gb101) (o := .cells #[.string a0_0,.int .i64 a0_1,.string a0_2,.int .i64 a0_3,.int .i64 a0_4,.string a0_5,.string a0_6] 25 (0,0)) (by (with_reducible repeat (first | refine zz ?_ _ | refine zj ?_ | refine zq ?_ _));refine blk_far ?_ NB101_103.out _;(with_reducible repeat (first | refine zz ?_ _ | refine zj ?_ | refine zq ?_ _));refine blk_far ?_ NB101_103.out _;(with_reducible repeat (first | refine zz ?_ _ | refine zj ?_ | refine zq ?_ _));refine blk_far ?_ NB101_103.out _;(with_reducible repeat (first | refine zz ?_ _ | refine zj ?_ | refine zq ?_ _));exact BK101.out) hb);have n1_ := qq.mk (jx (g := gb102) (o := .cells #[.string (⟨#[]⟩ : ByteArray),.int .i64 0,.string (⟨#[]⟩ : ByteArray),.int .i64 0,.int .i64 0,.string (⟨#[]⟩ : ByteArray),.string (⟨#[]⟩ : ByteArray)] 30 (0,0)) (by (with_reducible repeat (first | refine zz ?_ _ | refine zj ?_ | refine zq ?_ _));refine blk_far ?_ NB102_103.out _;(with_reducible repeat (first | refine zz ?_ _ | refine zj ?_ | refine zq ?_ _));refine blk_far ?_ NB102_103.out _;(with_reducible repeat (first | refine zz ?_ _ | refine zj ?_ | refine zq ?_ _));refine blk_far ?_ NB102_103.out _;(with_reducible repeat (first | refine zz ?_ _ | refine zj ?_ | refine zq ?_ _));exact BK102.out) hb);have n2_ := qq.mk (jx (g := gb103) (o := .cells #[.string a0_0,.int .i64 a0_1,.string a0_2,.int .i64 0,.int .i64 0,.string (⟨#[]⟩ : ByteArray),.string (⟨#[]⟩ : ByteArray)] 30 (0,0)) (by (with_reducible repeat (first | refine zz ?_ _ | refine zj ?_ | refine zq ?_ _));refine blk_put (cs := #[.string a0_0,.int .i64 a0_1,.string (⟨#[]⟩ : ByteArray),.int .i64 0,.int .i64 0,.string (⟨#[]⟩ : ByteArray),.string (⟨#[]⟩ : ByteArray)]) ?_ 2 _ rfl;(with_reducible repeat (first | refine zz ?_ _ | refine zj ?_ | refine zq ?_ _));refine blk_put (cs := #[.string a0_0,.int .i64 0,.string (⟨#[]⟩ : ByteArray),.int .i64 0,.int .i64 0,.string (⟨#[]⟩ : ByteArray),.string (⟨#[]⟩ : ByteArray)]) ?_ 1 _ rfl;(with_reducible repeat (first | refine zz ?_ _ | refine zj ?_ | refine zq ?_ _));refine blk_put (cs := #[.string (⟨#[]⟩ : ByteArray),.int .i64 0,.string (⟨#[]⟩ : ByteArray),.int .i64 0,.int .i64 0,.string (⟨#[]⟩ : ByteArray),.string (⟨#[]⟩ : ByteArray)]) ?_ 0 _ rfl;(with_reducible repeat (first | refine zz ?_ _ | refine zj ?_ | refine zq ?_ _));exact BK103.out) hb);have n3_ := qq.mk (zv (by repeat (first | (with_reducible first | exact HB.out | apply qj | apply qz | apply qk | refine qx ?_ GE101.out | refine qx ?_ GE102.out | refine qx ?_ GE103.out) | exact HB.out)) hb);clear BK101;clear BK102;clear BK103;clear HB;have BK101 := n0_;have BK102 := n1_;have BK103 := n2_;have HB := n3_;clear n0_ n1_ n2_ n3_;(try clear hb);(try clear hb2);(try clear hk);(try clear hi);have hcz12_0 : w11.cell? ⟨gb103,0,none⟩ = some (.string a0_0) := (qw BK103.out 0).trans rfl;have hcz12_1 : w11.cell? ⟨gb103,1,none⟩ = some (.int .i64 a0_1) := (qw BK103.out 1).trans rfl;have hcz12_2 : w11.cell? ⟨gb103,2,none⟩ = some (.string a0_2) := (qw BK103.out 2).trans rfl;have hcz12_3 : w11.cell? ⟨gb103,3,none⟩ = some (.int .i64 0) := (qw BK103.out 3).trans rfl;have hcz12_4 : w11.cell? ⟨gb103,4,none⟩ = some (.int .i64 0) := (qw BK103.out 4).trans rfl;have hcz12_5 : w11.cell? ⟨gb103,5,none⟩ = some (.string (⟨#[]⟩ : ByteArray)) := (qw BK103.out 5).trans rfl;have hcz12_6 : w11.cell? ⟨gb103,6,none⟩ = some (.string (⟨#[]⟩ : ByteArray)) := (qw BK103.out 6).trans rfl;have hfz12_0 := qv BK103.out 0;have hfz12_1 := qv BK103.out 1;have hfz12_2 := qv BK103.out 2;have hfz12_3 := qv BK103.out 3;have hfz12_4 := qv BK103.out 4;have hfz12_5 := qv BK103.out 5;have hfz12_6 := qv BK103.out 6;have hcz13_0 : w11.cell? ⟨gb102,0,none⟩ = some (.string (⟨#[]⟩ : ByteArray)) := (qw BK102.out 0).trans rfl;have hcz13_1 : w11.cell? ⟨gb102,1,none⟩ = some (.int .i64 0) := (qw BK102.out 1).trans rfl;have hcz13_2 : w11.cell? ⟨gb102,2,none⟩ = some (.string (⟨#[]⟩ : ByteArray)) := (qw BK102.out 2).trans rfl;have hcz13_3 : w11.cell? ⟨gb102,3,none⟩ = some (.int .i64 0) := (qw BK102.out 3).trans rfl;have hcz13_4 : w11.cell? ⟨gb102,4,none⟩ = some (.int .i64 0) := (qw BK102.out 4).trans rfl;have hcz13_5 : w11.cell? ⟨gb102,5,none⟩ = some (.string (⟨#[]⟩ : ByteArray)) := (qw BK102.out 5).trans rfl;have hcz13_6 : w11.cell? ⟨gb102,6,none⟩ = some (.string (⟨#[]⟩ : ByteArray)) := (qw BK102.out 6).trans rfl;have hfz13_0 := qv BK102.out 0;have hfz13_1 := qv BK102.out 1;have hfz13_2 := qv BK102.out 2;have hfz13_3 := qv BK102.out 3;have hfz13_4 := qv BK102.out 4;have hfz13_5 := qv BK102.out 5;have hfz13_6 := qv BK102.out 6))
 refine bodyPost_ret (results_cell_row rfl _ _ gb102 30 #[.string a0_0,.int .i64 a0_1,.string a0_2,.int .i64 t104,.int .i64 t105,.string t106,.string t107] (0,0) _ rfl (by (with_reducible repeat (first | refine zz ?_ _ | refine zj ?_ | refine zq ?_ _));refine blk_put (cs := #[.string a0_0,.int .i64 a0_1,.string a0_2,.int .i64 t104,.int .i64 t105,.string t106,.string (⟨#[]⟩ : ByteArray)]) ?_ 6 _ rfl;(with_reducible repeat (first | refine zz ?_ _ | refine zj ?_ | refine zq ?_ _));refine blk_put (cs := #[.string a0_0,.int .i64 a0_1,.string a0_2,.int .i64 t104,.int .i64 t105,.string (⟨#[]⟩ : ByteArray),.string (⟨#[]⟩ : ByteArray)]) ?_ 5 _ rfl;(with_reducible repeat (first | refine zz ?_ _ | refine zj ?_ | refine zq ?_ _));refine blk_put (cs := #[.string a0_0,.int .i64 a0_1,.string a0_2,.int .i64 t104,.int .i64 0,.string (⟨#[]⟩ : ByteArray),.string (⟨#[]⟩ : ByteArray)]) ?_ 4 _ rfl;(with_reducible repeat (first | refine zz ?_ _ | refine zj ?_ | refine zq ?_ _));refine blk_put (cs := #[.string a0_0,.int .i64 a0_1,.string a0_2,.int .i64 0,.int .i64 0,.string (⟨#[]⟩ : ByteArray),.string (⟨#[]⟩ : ByteArray)]) ?_ 3 _ rfl;(with_reducible repeat (first | refine zz ?_ _ | refine zj ?_ | refine zq ?_ _));refine blk_put (cs := #[.string a0_0,.int .i64 a0_1,.string (⟨#[]⟩ : ByteArray),.int .i64 0,.int .i64 0,.string (⟨#[]⟩ : ByteArray),.string (⟨#[]⟩ : ByteArray)]) ?_ 2 _ rfl;(with_reducible repeat (first | refine zz ?_ _ | refine zj ?_ | refine zq ?_ _));refine blk_put (cs := #[.string a0_0,.int .i64 0,.string (⟨#[]⟩ : ByteArray),.int .i64 0,.int .i64 0,.string (⟨#[]⟩ : ByteArray),.string (⟨#[]⟩ : ByteArray)]) ?_ 1 _ rfl;(with_reducible repeat (first | refine zz ?_ _ | refine zj ?_ | refine zq ?_ _));refine blk_put (cs := #[.string (⟨#[]⟩ : ByteArray),.int .i64 0,.string (⟨#[]⟩ : ByteArray),.int .i64 0,.int .i64 0,.string (⟨#[]⟩ : ByteArray),.string (⟨#[]⟩ : ByteArray)]) ?_ 0 _ rfl;(with_reducible repeat (first | refine zz ?_ _ | refine zj ?_ | refine zq ?_ _));refine blk_far ?_ NB102_103.out _;(with_reducible repeat (first | refine zz ?_ _ | refine zj ?_ | refine zq ?_ _));refine blk_far ?_ NB102_103.out _;(with_reducible repeat (first | refine zz ?_ _ | refine zj ?_ | refine zq ?_ _));refine blk_far ?_ NB102_103.out _;(with_reducible repeat (first | refine zz ?_ _ | refine zj ?_ | refine zq ?_ _));refine blk_far ?_ NB102_103.out _;(with_reducible repeat (first | refine zz ?_ _ | refine zj ?_ | refine zq ?_ _));exact BK102.out) Tryz.underlying30 rfl (by kernel_rfl)) rfl ?_
 exact ⟨by first | rfl | (simp [*,jk,jj] <;> rfl),by repeat (first | (with_reducible first | exact HB.out | apply qj | apply qz | apply qk | refine qx ?_ GE101.out | refine qx ?_ GE102.out | refine qx ?_ GE103.out) | exact HB.out)⟩
def wz.f (k : Nat) (a0_0 : ByteArray) (a0_1 : Int) (a0_2 : ByteArray) (a0_3 : Int) (a0_4 : Int) (a0_5 : ByteArray) (a0_6 : ByteArray) : Option (Bool) := (wk.f a0_0 a0_1 a0_2 a0_3 a0_4 a0_5 a0_6 1048576).bind fun t102 => (if t102 < 0 then (some true) else ((ww.f a0_0 a0_1 a0_2 a0_3 a0_4 a0_5 a0_6).bind fun bt103 => ((xz.f k bt103.1 bt103.2.1 bt103.2.2.1 bt103.2.2.2.1 bt103.2.2.2.2.1 bt103.2.2.2.2.2.1 bt103.2.2.2.2.2.2).bind fun t110 => ((ww.f a0_0 a0_1 a0_2 a0_3 a0_4 a0_5 a0_6).bind fun bt111 => ((kx.f k bt111.1 bt111.2.1 bt111.2.2.1 bt111.2.2.2.1 bt111.2.2.2.2.1 bt111.2.2.2.2.2.1 bt111.2.2.2.2.2.2).bind fun t118 => (if t118.toList = t110.toList then (some true) else (none)))))))
set_option maxHeartbeats 8000000 in
set_option maxRecDepth 100000 in
theorem wz.calls (k : Nat) (a0_0 : ByteArray) (a0_1 : Int) (a0_2 : ByteArray) (a0_3 : Int) (a0_4 : Int) (a0_5 : ByteArray) (a0_6 : ByteArray) (r : Bool) (w : World) (htab : TabW w) (h : wz.f k a0_0 a0_1 a0_2 a0_3 a0_4 a0_5 a0_6 = some r) :
  Calls Tryz.prog 3 #[.agg #[.string a0_0,.int .i64 a0_1,.string a0_2,.int .i64 a0_3,.int .i64 a0_4,.string a0_5,.string a0_6]] w fun e w' => e = .returned (.bool r) ∧ Below w.heap.size w w' := by
 have HTAB := qq.mk htab
 clear htab
 have hu25 := Tryz.underlying25
 have HB := qq.mk (Below.refl w.heap.size w)
 have H : ((wk.f a0_0 a0_1 a0_2 a0_3 a0_4 a0_5 a0_6 1048576).bind fun t102 => (if t102 < 0 then (some true) else ((ww.f a0_0 a0_1 a0_2 a0_3 a0_4 a0_5 a0_6).bind fun bt103 => ((xz.f k bt103.1 bt103.2.1 bt103.2.2.1 bt103.2.2.2.1 bt103.2.2.2.2.1 bt103.2.2.2.2.2.1 bt103.2.2.2.2.2.2).bind fun t110 => ((ww.f a0_0 a0_1 a0_2 a0_3 a0_4 a0_5 a0_6).bind fun bt111 => ((kx.f k bt111.1 bt111.2.1 bt111.2.2.1 bt111.2.2.2.1 bt111.2.2.2.2.1 bt111.2.2.2.2.2.1 bt111.2.2.2.2.2.2).bind fun t118 => (if t118.toList = t110.toList then (some true) else (none)))))))) = some r := h
 clear h
 replace H := Option.bind_eq_some_iff.mp H
 obtain ⟨t102,A20,H⟩ := H
 replace H : (if t102 < 0 then (some true) else ((ww.f a0_0 a0_1 a0_2 a0_3 a0_4 a0_5 a0_6).bind fun bt103 => ((xz.f k bt103.1 bt103.2.1 bt103.2.2.1 bt103.2.2.2.1 bt103.2.2.2.2.1 bt103.2.2.2.2.2.1 bt103.2.2.2.2.2.2).bind fun t110 => ((ww.f a0_0 a0_1 a0_2 a0_3 a0_4 a0_5 a0_6).bind fun bt111 => ((kx.f k bt111.1 bt111.2.1 bt111.2.2.1 bt111.2.2.2.1 bt111.2.2.2.2.1 bt111.2.2.2.2.2.1 bt111.2.2.2.2.2.2).bind fun t118 => (if t118.toList = t110.toList then (some true) else (none))))))) = some r := H
 have A2 := qq.mk A20
 clear A20
 by_cases c3 : t102 < 0
 ·rw [if_pos c3] at H
  have c3b0 : decide (t102 < 0) = true := decide_eq_true c3
  clear c3
  obtain rfl := Option.some.inj H
  go_enter Tryz.func3,Tryz.ntmps3
  go_wp2_with (first | ((with_reducible refine gate_dst (N := 1) rfl ?_);refine box_event ?hg (N := 1) ?hd (cs := #[.string a0_0,.int .i64 a0_1,.string a0_2,.int .i64 a0_3,.int .i64 a0_4,.string a0_5,.string a0_6]) (t := 25) ?hr ?_;(case hd => rfl);(case hg => rfl);(case hr => first | (go_simp;done) | (go_simp;rfl));intro gb101 hg w4 hbox hb;have n0_ := qq.mk (zv (by repeat (first | (with_reducible first | exact HB.out | apply qj | apply qz | apply qk) | exact HB.out)) hb);have n1_ := qq.mk (hbox);have n2_ := qq.mk ((by rw [hg];exact (zw (by repeat (first | (with_reducible first | exact HB.out | apply qj | apply qz | apply qk) | exact HB.out))) : w.heap.size ≤ gb101));have n3_ := qq.mk ((by rw [hg];exact (zw (by repeat (first | (with_reducible first | exact HB.out | apply qj | apply qz | apply qk) | exact HB.out))) : w.heap.size ≤ gb101));clear HB;have HB := n0_;have BK101 := n1_;have GW101 := n2_;have GE101 := n3_;clear n0_ n1_ n2_ n3_;clear hb hbox hg;have hcz5_0 : w4.cell? ⟨gb101,0,none⟩ = some (.string a0_0) := (qw BK101.out 0).trans rfl;have hcz5_1 : w4.cell? ⟨gb101,1,none⟩ = some (.int .i64 a0_1) := (qw BK101.out 1).trans rfl;have hcz5_2 : w4.cell? ⟨gb101,2,none⟩ = some (.string a0_2) := (qw BK101.out 2).trans rfl;have hcz5_3 : w4.cell? ⟨gb101,3,none⟩ = some (.int .i64 a0_3) := (qw BK101.out 3).trans rfl;have hcz5_4 : w4.cell? ⟨gb101,4,none⟩ = some (.int .i64 a0_4) := (qw BK101.out 4).trans rfl;have hcz5_5 : w4.cell? ⟨gb101,5,none⟩ = some (.string a0_5) := (qw BK101.out 5).trans rfl;have hcz5_6 : w4.cell? ⟨gb101,6,none⟩ = some (.string a0_6) := (qw BK101.out 6).trans rfl;have hfz5_0 := qv BK101.out 0;have hfz5_1 := qv BK101.out 1;have hfz5_2 := qv BK101.out 2;have hfz5_3 := qv BK101.out 3;have hfz5_4 := qv BK101.out 4;have hfz5_5 := qv BK101.out 5;have hfz5_6 := qv BK101.out 6) | ((with_reducible refine jv (f := 6) rfl ?_);refine goesL_ (some 8) rfl rfl Tryz.func6 (by kernel_rfl) rfl #[.agg #[.string a0_0,.int .i64 a0_1,.string a0_2,.int .i64 a0_3,.int .i64 a0_4,.string a0_5,.string a0_6],.int .i64 1048576] rfl (by (try simp only [List.map_toArray,List.map_cons,List.map_nil]);first | done | rfl | (simp only [List.length_drop,List.length_take];rfl)) ?_;(with_reducible refine (wk.calls a0_0 a0_1 a0_2 a0_3 a0_4 a0_5 a0_6 1048576 t102 _ A2.out).mono ?_);rintro e w6 ⟨rfl,hb⟩;refine ⟨_,rfl,?_⟩;have n0_ := qq.mk (jx (g := gb101) (o := .cells #[.string a0_0,.int .i64 a0_1,.string a0_2,.int .i64 a0_3,.int .i64 a0_4,.string a0_5,.string a0_6] 25 (0,0)) (by (with_reducible repeat (first | refine zz ?_ _ | refine zj ?_ | refine zq ?_ _));exact BK101.out) hb);have n1_ := qq.mk (zv (by repeat (first | (with_reducible first | exact HB.out | apply qj | apply qz | apply qk | refine qx ?_ GE101.out) | exact HB.out)) hb);clear BK101;clear HB;have BK101 := n0_;have HB := n1_;clear n0_ n1_;(try clear hb);(try clear hb2);(try clear hk);(try clear hi)))
  go_ret
  exact ⟨by first | rfl | (simp [*,jk,jj] <;> rfl),by repeat (first | (with_reducible first | exact HB.out | apply qj | apply qz | apply qk | refine qx ?_ GE101.out) | exact HB.out)⟩
 ·rw [if_neg c3] at H
  have c3b0 : decide (t102 < 0) = false := decide_eq_false c3
  clear c3
  replace H := Option.bind_eq_some_iff.mp H
  obtain ⟨⟨t103,t104,t105,t106,t107,t108,t109⟩,A70,H⟩ := H
  replace H : ((xz.f k t103 t104 t105 t106 t107 t108 t109).bind fun t110 => ((ww.f a0_0 a0_1 a0_2 a0_3 a0_4 a0_5 a0_6).bind fun bt111 => ((kx.f k bt111.1 bt111.2.1 bt111.2.2.1 bt111.2.2.2.1 bt111.2.2.2.2.1 bt111.2.2.2.2.2.1 bt111.2.2.2.2.2.2).bind fun t118 => (if t118.toList = t110.toList then (some true) else (none))))) = some r := H
  have A7 := qq.mk A70
  clear A70
  replace H := Option.bind_eq_some_iff.mp H
  obtain ⟨t110,A80,H⟩ := H
  replace H : ((ww.f a0_0 a0_1 a0_2 a0_3 a0_4 a0_5 a0_6).bind fun bt111 => ((kx.f k bt111.1 bt111.2.1 bt111.2.2.1 bt111.2.2.2.1 bt111.2.2.2.2.1 bt111.2.2.2.2.2.1 bt111.2.2.2.2.2.2).bind fun t118 => (if t118.toList = t110.toList then (some true) else (none)))) = some r := H
  have A8 := qq.mk A80
  clear A80
  replace H := Option.bind_eq_some_iff.mp H
  obtain ⟨⟨t111,t112,t113,t114,t115,t116,t117⟩,A90,H⟩ := H
  replace H : ((kx.f k t111 t112 t113 t114 t115 t116 t117).bind fun t118 => (if t118.toList = t110.toList then (some true) else (none))) = some r := H
  have A9 := qq.mk A90
  clear A90
  replace H := Option.bind_eq_some_iff.mp H
  obtain ⟨t118,A100,H⟩ := H
  replace H : (if t118.toList = t110.toList then (some true) else (none)) = some r := H
  have A10 := qq.mk A100
  clear A100
  by_cases c11 : t118.toList = t110.toList
  ·rw [if_pos c11] at H
   have c11b0 : (t118.toList == t110.toList) = true := beq_iff_eq.mpr c11
   have c11b1 : (t118.toList != t110.toList) = false := bne_eq_false_iff_eq.mpr c11
   clear c11
   obtain rfl := Option.some.inj H
   go_enter Tryz.func3,Tryz.ntmps3
   go_wp2_with (first | ((with_reducible refine gate_dst (N := 1) rfl ?_);refine box_event ?hg (N := 1) ?hd (cs := #[.string a0_0,.int .i64 a0_1,.string a0_2,.int .i64 a0_3,.int .i64 a0_4,.string a0_5,.string a0_6]) (t := 25) ?hr ?_;(case hd => rfl);(case hg => rfl);(case hr => first | (go_simp;done) | (go_simp;rfl));intro gb101 hg w12 hbox hb;have n0_ := qq.mk (zv (by repeat (first | (with_reducible first | exact HB.out | apply qj | apply qz | apply qk) | exact HB.out)) hb);have n1_ := qq.mk (hbox);have n2_ := qq.mk ((by rw [hg];exact (zw (by repeat (first | (with_reducible first | exact HB.out | apply qj | apply qz | apply qk) | exact HB.out))) : w.heap.size ≤ gb101));have n3_ := qq.mk ((by rw [hg];exact (zw (by repeat (first | (with_reducible first | exact HB.out | apply qj | apply qz | apply qk) | exact HB.out))) : w.heap.size ≤ gb101));clear HB;have HB := n0_;have BK101 := n1_;have GW101 := n2_;have GE101 := n3_;clear n0_ n1_ n2_ n3_;clear hb hbox hg;have hcz13_0 : w12.cell? ⟨gb101,0,none⟩ = some (.string a0_0) := (qw BK101.out 0).trans rfl;have hcz13_1 : w12.cell? ⟨gb101,1,none⟩ = some (.int .i64 a0_1) := (qw BK101.out 1).trans rfl;have hcz13_2 : w12.cell? ⟨gb101,2,none⟩ = some (.string a0_2) := (qw BK101.out 2).trans rfl;have hcz13_3 : w12.cell? ⟨gb101,3,none⟩ = some (.int .i64 a0_3) := (qw BK101.out 3).trans rfl;have hcz13_4 : w12.cell? ⟨gb101,4,none⟩ = some (.int .i64 a0_4) := (qw BK101.out 4).trans rfl;have hcz13_5 : w12.cell? ⟨gb101,5,none⟩ = some (.string a0_5) := (qw BK101.out 5).trans rfl;have hcz13_6 : w12.cell? ⟨gb101,6,none⟩ = some (.string a0_6) := (qw BK101.out 6).trans rfl;have hfz13_0 := qv BK101.out 0;have hfz13_1 := qv BK101.out 1;have hfz13_2 := qv BK101.out 2;have hfz13_3 := qv BK101.out 3;have hfz13_4 := qv BK101.out 4;have hfz13_5 := qv BK101.out 5;have hfz13_6 := qv BK101.out 6) | ((with_reducible refine jv (f := 6) rfl ?_);refine goesL_ (some 8) rfl rfl Tryz.func6 (by kernel_rfl) rfl #[.agg #[.string a0_0,.int .i64 a0_1,.string a0_2,.int .i64 a0_3,.int .i64 a0_4,.string a0_5,.string a0_6],.int .i64 1048576] rfl (by (try simp only [List.map_toArray,List.map_cons,List.map_nil]);first | done | rfl | (simp only [List.length_drop,List.length_take];rfl)) ?_;(with_reducible refine (wk.calls a0_0 a0_1 a0_2 a0_3 a0_4 a0_5 a0_6 1048576 t102 _ A2.out).mono ?_);rintro e w14 ⟨rfl,hb⟩;refine ⟨_,rfl,?_⟩;have n0_ := qq.mk (jx (g := gb101) (o := .cells #[.string a0_0,.int .i64 a0_1,.string a0_2,.int .i64 a0_3,.int .i64 a0_4,.string a0_5,.string a0_6] 25 (0,0)) (by (with_reducible repeat (first | refine zz ?_ _ | refine zj ?_ | refine zq ?_ _));exact BK101.out) hb);have n1_ := qq.mk (zv (by repeat (first | (with_reducible first | exact HB.out | apply qj | apply qz | apply qk | refine qx ?_ GE101.out) | exact HB.out)) hb);clear BK101;clear HB;have BK101 := n0_;have HB := n1_;clear n0_ n1_;(try clear hb);(try clear hb2);(try clear hk);(try clear hi);have hcz15_0 : w14.cell? ⟨gb101,0,none⟩ = some (.string a0_0) := (qw BK101.out 0).trans rfl;have hcz15_1 : w14.cell? ⟨gb101,1,none⟩ = some (.int .i64 a0_1) := (qw BK101.out 1).trans rfl;have hcz15_2 : w14.cell? ⟨gb101,2,none⟩ = some (.string a0_2) := (qw BK101.out 2).trans rfl;have hcz15_3 : w14.cell? ⟨gb101,3,none⟩ = some (.int .i64 a0_3) := (qw BK101.out 3).trans rfl;have hcz15_4 : w14.cell? ⟨gb101,4,none⟩ = some (.int .i64 a0_4) := (qw BK101.out 4).trans rfl;have hcz15_5 : w14.cell? ⟨gb101,5,none⟩ = some (.string a0_5) := (qw BK101.out 5).trans rfl;have hcz15_6 : w14.cell? ⟨gb101,6,none⟩ = some (.string a0_6) := (qw BK101.out 6).trans rfl;have hfz15_0 := qv BK101.out 0;have hfz15_1 := qv BK101.out 1;have hfz15_2 := qv BK101.out 2;have hfz15_3 := qv BK101.out 3;have hfz15_4 := qv BK101.out 4;have hfz15_5 := qv BK101.out 5;have hfz15_6 := qv BK101.out 6) | ((with_reducible refine jv (f := 8) rfl ?_);refine goesL_ (some 12) rfl rfl Tryz.func8 (by kernel_rfl) rfl #[.agg #[.string a0_0,.int .i64 a0_1,.string a0_2,.int .i64 a0_3,.int .i64 a0_4,.string a0_5,.string a0_6]] rfl (by (try simp only [List.map_toArray,List.map_cons,List.map_nil]);first | done | rfl | (simp only [List.length_drop,List.length_take];rfl)) ?_;(with_reducible refine (ww.calls a0_0 a0_1 a0_2 a0_3 a0_4 a0_5 a0_6 t103 t104 t105 t106 t107 t108 t109 _ A7.out).mono ?_);rintro e w16 ⟨rfl,hb⟩;refine ⟨_,rfl,?_⟩;have n0_ := qq.mk (jx (g := gb101) (o := .cells #[.string a0_0,.int .i64 a0_1,.string a0_2,.int .i64 a0_3,.int .i64 a0_4,.string a0_5,.string a0_6] 25 (0,0)) (by (with_reducible repeat (first | refine zz ?_ _ | refine zj ?_ | refine zq ?_ _));exact BK101.out) hb);have n1_ := qq.mk (zv (by repeat (first | (with_reducible first | exact HB.out | apply qj | apply qz | apply qk | refine qx ?_ GE101.out) | exact HB.out)) hb);clear BK101;clear HB;have BK101 := n0_;have HB := n1_;clear n0_ n1_;(try clear hb);(try clear hb2);(try clear hk);(try clear hi)) | ((with_reducible refine jv (f := 7) rfl ?_);refine goesL_ (some 13) rfl rfl Tryz.func7 (by kernel_rfl) rfl #[.agg #[.string t103,.int .i64 t104,.string t105,.int .i64 t106,.int .i64 t107,.string t108,.string t109]] rfl (by (try simp only [List.map_toArray,List.map_cons,List.map_nil]);first | done | rfl | (simp only [List.length_drop,List.length_take];rfl)) ?_;(with_reducible refine (xz.calls k t103 t104 t105 t106 t107 t108 t109 t110 _ A8.out).mono ?_);rintro e w17 ⟨rfl,hb⟩;refine ⟨_,rfl,?_⟩;have n0_ := qq.mk (jx (g := gb101) (o := .cells #[.string a0_0,.int .i64 a0_1,.string a0_2,.int .i64 a0_3,.int .i64 a0_4,.string a0_5,.string a0_6] 25 (0,0)) (by (with_reducible repeat (first | refine zz ?_ _ | refine zj ?_ | refine zq ?_ _));exact BK101.out) hb);have n1_ := qq.mk (zv (by repeat (first | (with_reducible first | exact HB.out | apply qj | apply qz | apply qk | refine qx ?_ GE101.out) | exact HB.out)) hb);clear BK101;clear HB;have BK101 := n0_;have HB := n1_;clear n0_ n1_;(try clear hb);(try clear hb2);(try clear hk);(try clear hi);have hcz18_0 : w17.cell? ⟨gb101,0,none⟩ = some (.string a0_0) := (qw BK101.out 0).trans rfl;have hcz18_1 : w17.cell? ⟨gb101,1,none⟩ = some (.int .i64 a0_1) := (qw BK101.out 1).trans rfl;have hcz18_2 : w17.cell? ⟨gb101,2,none⟩ = some (.string a0_2) := (qw BK101.out 2).trans rfl;have hcz18_3 : w17.cell? ⟨gb101,3,none⟩ = some (.int .i64 a0_3) := (qw BK101.out 3).trans rfl;have hcz18_4 : w17.cell? ⟨gb101,4,none⟩ = some (.int .i64 a0_4) := (qw BK101.out 4).trans rfl;have hcz18_5 : w17.cell? ⟨gb101,5,none⟩ = some (.string a0_5) := (qw BK101.out 5).trans rfl;have hcz18_6 : w17.cell? ⟨gb101,6,none⟩ = some (.string a0_6) := (qw BK101.out 6).trans rfl;have hfz18_0 := qv BK101.out 0;have hfz18_1 := qv BK101.out 1;have hfz18_2 := qv BK101.out 2;have hfz18_3 := qv BK101.out 3;have hfz18_4 := qv BK101.out 4;have hfz18_5 := qv BK101.out 5;have hfz18_6 := qv BK101.out 6) | ((with_reducible refine jv (f := 8) rfl ?_);refine goesL_ (some 15) rfl rfl Tryz.func8 (by kernel_rfl) rfl #[.agg #[.string a0_0,.int .i64 a0_1,.string a0_2,.int .i64 a0_3,.int .i64 a0_4,.string a0_5,.string a0_6]] rfl (by (try simp only [List.map_toArray,List.map_cons,List.map_nil]);first | done | rfl | (simp only [List.length_drop,List.length_take];rfl)) ?_;(with_reducible refine (ww.calls a0_0 a0_1 a0_2 a0_3 a0_4 a0_5 a0_6 t111 t112 t113 t114 t115 t116 t117 _ A9.out).mono ?_);rintro e w19 ⟨rfl,hb⟩;refine ⟨_,rfl,?_⟩;have n0_ := qq.mk (jx (g := gb101) (o := .cells #[.string a0_0,.int .i64 a0_1,.string a0_2,.int .i64 a0_3,.int .i64 a0_4,.string a0_5,.string a0_6] 25 (0,0)) (by (with_reducible repeat (first | refine zz ?_ _ | refine zj ?_ | refine zq ?_ _));exact BK101.out) hb);have n1_ := qq.mk (zv (by repeat (first | (with_reducible first | exact HB.out | apply qj | apply qz | apply qk | refine qx ?_ GE101.out) | exact HB.out)) hb);clear BK101;clear HB;have BK101 := n0_;have HB := n1_;clear n0_ n1_;(try clear hb);(try clear hb2);(try clear hk);(try clear hi)) | ((with_reducible refine jv (f := 9) rfl ?_);refine goesL_ (some 16) rfl rfl Tryz.func9 (by kernel_rfl) rfl #[.agg #[.string t111,.int .i64 t112,.string t113,.int .i64 t114,.int .i64 t115,.string t116,.string t117]] rfl (by (try simp only [List.map_toArray,List.map_cons,List.map_nil]);first | done | rfl | (simp only [List.length_drop,List.length_take];rfl)) ?_;(with_reducible refine (kx.calls k t111 t112 t113 t114 t115 t116 t117 t118 _ ?tabw A10.out).mono ?_);(case tabw => repeat (first | exact HTAB.out | exact TabW_below HTAB.out HB.out | (with_reducible refine TabW_drewN ?_ _) | (with_reducible refine TabW_drew ?_) | (with_reducible refine TabW_alloc ?_ _)));rintro e w20 ⟨rfl,hb⟩;refine ⟨_,rfl,?_⟩;have n0_ := qq.mk (jx (g := gb101) (o := .cells #[.string a0_0,.int .i64 a0_1,.string a0_2,.int .i64 a0_3,.int .i64 a0_4,.string a0_5,.string a0_6] 25 (0,0)) (by (with_reducible repeat (first | refine zz ?_ _ | refine zj ?_ | refine zq ?_ _));exact BK101.out) hb);have n1_ := qq.mk (zv (by repeat (first | (with_reducible first | exact HB.out | apply qj | apply qz | apply qk | refine qx ?_ GE101.out) | exact HB.out)) hb);clear BK101;clear HB;have BK101 := n0_;have HB := n1_;clear n0_ n1_;(try clear hb);(try clear hb2);(try clear hk);(try clear hi)))
   go_ret
   exact ⟨by first | rfl | (simp [*,jk,jj] <;> rfl),by repeat (first | (with_reducible first | exact HB.out | apply qj | apply qz | apply qk | refine qx ?_ GE101.out) | exact HB.out)⟩
  ·rw [if_neg c11] at H
   exact absurd H (by simp)
open Go.RowKit Go.Proofs.YtnbbbjfjkhglhaaGreatDoor.Read Go.Proofs.YtnbbbjfjkhglhaaGreatDoorW.PrintWords
def wz.Pure : Prop := ∀ (a0_0 : ByteArray) (a0_1 : Int) (a0_2 : ByteArray) (a0_3 : Int) (a0_4 : Int) (a0_5 : ByteArray) (a0_6 : ByteArray),okS a0_0 → okI a0_1 → okS a0_2 → okI a0_3 → okI a0_4 → okS a0_5 → okS a0_6 → ∃ k,wz.f k a0_0 a0_1 a0_2 a0_3 a0_4 a0_5 a0_6 = some true
theorem w64 {n : Int} (h0 : -9223372036854775808 ≤ n) (h1 : n ≤ 9223372036854775807) : wrap64 n = n := by unfold wrap64;omega
def prtN (s : ByteArray) : Nat → Bool
 | 0 => true
 | d + 1 => if bt s ((s.size - (d + 1) : Nat) : Int) < 32 then false else if bt s ((s.size - (d + 1) : Nat) : Int) > 126 then false else prtN s d
def prt (s : ByteArray) : Bool := prtN s s.size
theorem l1Printed_l0 (s : ByteArray) (hs : s.size ≤ 9223372036854775807) (d : Nat) : ∀ (k i : Nat),s.size - i = d → i ≤ s.size → d < k → qqz.l0 k s i = some (prtN s d) := by
 induction d with
 | zero =>
  intro k i hd hi hk
  obtain ⟨k,rfl⟩ : ∃ m,k = m + 1 := ⟨k - 1,by omega⟩
  simp only [qqz.l0]
  rw [if_neg (by omega)];rfl
 | succ d ih =>
  intro k i hd hi hk
  obtain ⟨k,rfl⟩ : ∃ m,k = m + 1 := ⟨k - 1,by omega⟩
  have e0 : s.size - (d + 1) = i := by omega
  simp only [qqz.l0,prtN,e0]
  rw [if_pos (by omega),if_pos (by omega),w64 (by omega) (by omega),show ((i : Int) + 1) = ((i + 1 : Nat) : Int) from rfl,ih k (i + 1) (by omega) (by omega) (by omega)]
  split
  ·rfl
  ·split <;> rfl
theorem l1Printed_eq (s : ByteArray) (hs : s.size ≤ 9223372036854775807) (k : Nat) (hk : s.size < k) : qqz.f k s = some (prt s) :=
 l1Printed_l0 s hs s.size k 0 (by omega) (by omega) hk
theorem yprinted_l0 (s : ByteArray) (hs : s.size ≤ 9223372036854775807) (d : Nat) : ∀ (k i : Nat),s.size - i = d → i ≤ s.size → d < k → vw.l0 k s (s.size : Int) i = some (prtN s d) := by
 induction d with
 | zero =>
  intro k i hd hi hk
  obtain ⟨k,rfl⟩ : ∃ m,k = m + 1 := ⟨k - 1,by omega⟩
  simp only [vw.l0]
  rw [if_neg (by omega)];rfl
 | succ d ih =>
  intro k i hd hi hk
  obtain ⟨k,rfl⟩ : ∃ m,k = m + 1 := ⟨k - 1,by omega⟩
  have e0 : s.size - (d + 1) = i := by omega
  simp only [vw.l0,prtN,e0]
  rw [if_pos (by omega),if_pos (by omega),if_pos (by omega),w64 (by omega) (by omega),show ((i : Int) + 1) = ((i + 1 : Nat) : Int) from rfl,ih k (i + 1) (by omega) (by omega) (by omega)]
  split
  ·rfl
  ·split <;> rfl
theorem yprinted_eq (s : ByteArray) (lo hi : Int) (hs : s.size ≤ 9223372036854775807) (k : Nat) (hk : s.size + 1 < k) : vw.f k s lo hi = some (decide (lo ≤ s.size) && decide ((s.size : Int) ≤ hi) && prt s) := by
 obtain ⟨k,rfl⟩ : ∃ m,k = m + 1 := ⟨k - 1,by omega⟩
 unfold vw.f
 have e := yprinted_l0 s hs s.size k 0 (by omega) (by omega) (by omega)
 by_cases h1 : (s.size : Int) < lo
 ·rw [if_pos h1]
  simp only [vw.j0,if_true]
  simp;omega
 ·rw [if_neg h1]
  have h1' : decide (lo ≤ (s.size : Int)) = true := decide_eq_true (by omega)
  by_cases h2 : (s.size : Int) ≤ hi
  ·have h2' : decide ((s.size : Int) > hi) = false := decide_eq_false (by omega)
   have h2'' : decide ((s.size : Int) ≤ hi) = true := decide_eq_true h2
   rw [h1',h2',h2'']
   simp only [vw.j0,Bool.false_eq_true,if_false,Bool.true_and]
   exact e
  ·have h2' : decide ((s.size : Int) > hi) = true := decide_eq_true (by omega)
   have h2'' : decide ((s.size : Int) ≤ hi) = false := decide_eq_false h2
   rw [h1',h2',h2'']
   simp [vw.j0]
def nletC (c : Int) : Bool := decide (97 ≤ c ∧ c ≤ 122 ∨ 65 ≤ c ∧ c ≤ 90)
def ndigC (c : Int) : Bool := decide (48 ≤ c ∧ c ≤ 57)
theorem nsletter_eq (c : Int) : xw.f c = some (nletC c) := by
 unfold xw.f nletC
 split
 ·split
  ·congr 1;symm;rw [decide_eq_true_eq];omega
  ·split
   ·congr 1;rw [decide_eq_decide];omega
   ·congr 1;symm;rw [decide_eq_false_iff_not];omega
 ·split
  ·congr 1;rw [decide_eq_decide];omega
  ·congr 1;symm;rw [decide_eq_false_iff_not];omega
theorem nsdigit_eq (c : Int) : xv.f c = some (ndigC c) := by
 unfold xv.f ndigC
 split
 ·congr 1;rw [decide_eq_decide];omega
 ·congr 1;symm;rw [decide_eq_false_iff_not];omega
theorem niletter_eq (c : Int) : vk.f c = some (nletC c) := by
 unfold vk.f nletC
 split
 ·split
  ·congr 1;symm;rw [decide_eq_true_eq];omega
  ·split
   ·congr 1;rw [decide_eq_decide];omega
   ·congr 1;symm;rw [decide_eq_false_iff_not];omega
 ·split
  ·congr 1;rw [decide_eq_decide];omega
  ·congr 1;symm;rw [decide_eq_false_iff_not];omega
theorem nidigit_eq (c : Int) : vq.f c = some (ndigC c) := by
 unfold vq.f ndigC
 split
 ·congr 1;rw [decide_eq_decide];omega
 ·congr 1;symm;rw [decide_eq_false_iff_not];omega
def nameC (c : Int) : Bool := if nletC c = true then true else if ndigC c = true then true else if c = 95 then true else false
def nameN (s : ByteArray) : Nat → Bool
 | 0 => true
 | d + 1 => if nameC (bt s ((s.size - (d + 1) : Nat) : Int)) = true then nameN s d else false
theorem sName_l0 (s : ByteArray) (hs : s.size ≤ 9223372036854775807) (d : Nat) : ∀ (k i : Nat),s.size - i = d → i ≤ s.size → d < k → xq.l0 k s i = some (nameN s d) := by
 induction d with
 | zero =>
  intro k i hd hi hk
  obtain ⟨k,rfl⟩ : ∃ m,k = m + 1 := ⟨k - 1,by omega⟩
  simp only [xq.l0]
  rw [if_neg (by omega)]
  rfl
 | succ d ih =>
  intro k i hd hi hk
  obtain ⟨k,rfl⟩ : ∃ m,k = m + 1 := ⟨k - 1,by omega⟩
  have e0 : s.size - (d + 1) = i := by omega
  simp only [xq.l0,nameN,e0,nsletter_eq,nsdigit_eq,Option.bind_some]
  rw [if_pos (by omega),if_pos (by omega),w64 (by omega) (by omega),show ((i : Int) + 1) = ((i + 1 : Nat) : Int) from rfl,ih k (i + 1) (by omega) (by omega) (by omega)]
  unfold nameC
  split
  ·simp only [if_true]
  ·split
   ·simp only [if_true]
   ·split <;> simp only [if_true,Bool.false_eq_true,if_false]
theorem iName_l0 (s : ByteArray) (hs : s.size ≤ 9223372036854775807) (d : Nat) : ∀ (k i : Nat),s.size - i = d → i ≤ s.size → d < k → kw.l0 k s (s.size : Int) i = some (nameN s d) := by
 induction d with
 | zero =>
  intro k i hd hi hk
  obtain ⟨k,rfl⟩ : ∃ m,k = m + 1 := ⟨k - 1,by omega⟩
  simp only [kw.l0]
  rw [if_neg (by omega)]
  rfl
 | succ d ih =>
  intro k i hd hi hk
  obtain ⟨k,rfl⟩ : ∃ m,k = m + 1 := ⟨k - 1,by omega⟩
  have e0 : s.size - (d + 1) = i := by omega
  simp only [kw.l0,nameN,e0,wq.f,niletter_eq,nidigit_eq,Option.bind_some]
  rw [if_pos (by omega),if_pos (by omega),if_pos (by omega),w64 (by omega) (by omega),show ((i : Int) + 1) = ((i + 1 : Nat) : Int) from rfl,ih k (i + 1) (by omega) (by omega) (by omega)]
  unfold nameC
  by_cases h1 : nletC (bt s (i : Int)) = true
  ·simp only [h1,if_true,Option.bind_some]
  ·simp only [h1,Bool.false_eq_true,if_false]
   by_cases h2 : ndigC (bt s (i : Int)) = true
   ·simp only [h2,if_true,Option.bind_some]
   ·simp only [h2,Bool.false_eq_true,if_false,Option.bind_some,beq_iff_eq]
    by_cases h3 : bt s (i : Int) = 95
    ·simp only [h3,if_true]
    ·simp only [h3,if_false,Bool.false_eq_true]
def goodName (s : ByteArray) : Bool := if 1 ≤ s.size ∧ s.size ≤ 30 then (if ndigC (bt s 0) = true then false else nameN s s.size) else false
theorem name_size {s : ByteArray} (h : goodName s = true) : 1 ≤ s.size ∧ s.size ≤ 30 := by
 unfold goodName at h
 by_cases h1 : 1 ≤ s.size ∧ s.size ≤ 30
 ·exact h1
 ·rw [if_neg h1] at h;cases h
theorem list_nil_size {s : ByteArray} : s.toList = ([] : List UInt8) ↔ s.size = 0 := by
 rw [ByteArray.toList_eq]
 constructor
 ·intro h
  have := congrArg List.length h
  rwa [data_length] at this
 ·intro h
  exact List.eq_nil_of_length_eq_zero (by rw [data_length];exact h)
theorem specName_ev (s : ByteArray) (hs : s.size ≤ 9223372036854775807) : Ev (fun k => xq.f k s) (goodName s) := by
 refine ⟨s.size + 3,fun k hk => ?_⟩
 obtain ⟨k,rfl⟩ : ∃ m,k = m + 1 := ⟨k - 1,by omega⟩
 show xq.f (k + 1) s = _
 simp only [xq.f,xq.j0,if_true,goodName]
 by_cases h1 : (s.size : Int) < 1
 ·rw [if_pos h1,if_neg (show ¬ (1 ≤ s.size ∧ s.size ≤ 30) by omega)]
 by_cases h2 : (s.size : Int) > 30
 ·rw [if_neg h1,if_pos h2,if_neg (show ¬ (1 ≤ s.size ∧ s.size ≤ 30) by omega)]
 rw [if_neg h1,if_neg h2,if_pos (show 1 ≤ s.size ∧ s.size ≤ 30 by omega),if_pos (by omega),nsdigit_eq,Option.bind_some]
 by_cases h3 : ndigC (bt s 0) = true
 ·rw [if_pos h3,if_pos h3]
 ·rw [if_neg h3,if_neg h3]
  exact sName_l0 s hs s.size k 0 (by omega) (by omega) (by omega)
theorem implName_ev (s : ByteArray) (hs : s.size ≤ 9223372036854775807) : Ev (fun k => kw.f k s) (goodName s) := by
 refine ⟨s.size + 3,fun k hk => ?_⟩
 obtain ⟨k,rfl⟩ : ∃ m,k = m + 1 := ⟨k - 1,by omega⟩
 show kw.f (k + 1) s = _
 simp only [kw.f,kw.j0,if_true,goodName]
 by_cases h1 : s.size = 0
 ·rw [if_pos (list_nil_size.2 h1),if_neg (show ¬ (1 ≤ s.size ∧ s.size ≤ 30) by omega)]
 by_cases h2 : (s.size : Int) > 30
 ·rw [if_neg (fun e => h1 (list_nil_size.1 e)),if_pos h2,if_neg (show ¬ (1 ≤ s.size ∧ s.size ≤ 30) by omega)]
 rw [if_neg (fun e => h1 (list_nil_size.1 e)),if_neg h2,if_pos (show 1 ≤ s.size ∧ s.size ≤ 30 by omega),if_pos (by omega),nidigit_eq,Option.bind_some]
 by_cases h3 : ndigC (bt s 0) = true
 ·rw [if_pos h3,if_pos h3]
 ·rw [if_neg h3,if_neg h3]
  exact iName_l0 s hs s.size k 0 (by omega) (by omega) (by omega)
theorem Ev.upA {α : Type} {g : Nat → Option α} {r : α} (h : Ev (fun k => g (k + 1)) r) : Ev g r := by
 obtain ⟨n,h⟩ := h
 refine ⟨n + 1,fun k hk => ?_⟩
 obtain ⟨k,rfl⟩ : ∃ m,k = m + 1 := ⟨k - 1,by omega⟩
 exact h k (by omega)
theorem pow_le62 {n : Nat} (h : n ≤ 62) : (2 : Int) ^ n ≤ 4611686018427387904 := by
 have h2 : (2 : Nat) ^ n ≤ 4611686018427387904 := Nat.pow_le_pow_right (show 0 < 2 by decide) h
 have h3 : ((2 ^ n : Nat) : Int) ≤ ((4611686018427387904 : Nat) : Int) := Int.ofNat_le.2 h2
 rw [Int.natCast_pow] at h3
 exact h3
theorem pow_pos2 (n : Nat) : (0 : Int) < 2 ^ n := Int.pow_pos (by decide)
theorem pow2_l0 (n : Nat) (hn : n ≤ 62) (d : Nat) : ∀ (k j : Nat),j + d = n → d < k → qqq.l0 k (n : Int) (2 ^ j) (j : Int) = some (2 ^ n) := by
 induction d with
 | zero =>
  intro k j hj hk
  obtain ⟨k,rfl⟩ : ∃ m,k = m + 1 := ⟨k - 1,by omega⟩
  obtain rfl : j = n := by omega
  rw [qqq.l0,if_neg (by omega)]
 | succ d ih =>
  intro k j hj hk
  obtain ⟨k,rfl⟩ : ∃ m,k = m + 1 := ⟨k - 1,by omega⟩
  have hp := pow_le62 (n := j + 1) (by omega)
  have h0 := pow_pos2 j
  rw [Int.pow_succ] at hp
  have e1 : wrap64 ((2 : Int) ^ j * 2) = 2 ^ (j + 1) := by rw [w64 (by omega) (by omega),Int.pow_succ]
  have e2 : wrap64 ((j : Int) + 1) = ((j + 1 : Nat) : Int) := by rw [w64 (by omega) (by omega)];rfl
  rw [qqq.l0,if_pos (by omega),e1,e2]
  exact ih k (j + 1) (by omega) (by omega)
theorem pow2_eq (n : Nat) (hn : n ≤ 62) (k : Nat) (hk : n < k) : qqq.f k (n : Int) = some (2 ^ n) := pow2_l0 n hn n k 0 (by omega) hk
def blkOk (n : Int) : Prop := 0 ≤ n ∧ n % 64 ≤ 32 ∧ n / 64 < 4294967296 ∧ n / 64 % 2 ^ (32 - n % 64).toNat = 0
instance (n : Int) : Decidable (blkOk n) := by unfold blkOk;infer_instance
def noTexts (t ty : ByteArray) : Bool := decide (t.size = 0) && decide (ty.size = 0)
def goodAtom (k n : Int) (t ty : ByteArray) : Bool :=
 if k = 1 then noTexts t ty && decide (n = 0 ∨ n = 1)
 else if k = 2 ∨ k = 5 then noTexts t ty
 else if k = 3 then decide (n = 0 ∧ ty.size = 0) && (decide (t.size ≤ 200) && prt t)
 else if k = 4 then decide (n = 0) && (goodName ty && (decide (1 ≤ t.size ∧ t.size ≤ 200) && prt t))
 else if k = 6 then noTexts t ty && decide (blkOk n)
 else if k = 7 then noTexts t ty && decide (-100000000000 ≤ n ∧ n ≤ 100000000000)
 else false
theorem nil_list {s : ByteArray} (h : s.size = 0) : s.toList = ([] : List UInt8) := list_nil_size.2 h
theorem not_nil_list {s : ByteArray} (h : ¬ s.size = 0) : ¬ s.toList = ([] : List UInt8) := fun e => h (list_nil_size.1 e)
theorem bne_nil (s : ByteArray) : (s.toList != ([] : List UInt8)) = !decide (s.size = 0) := by
 by_cases h : s.size = 0
 ·rw [nil_list h,decide_eq_true h];rfl
 ·rw [bne,beq_eq_false_iff_ne.2 (not_nil_list h),decide_eq_false h]
theorem beq_nil (s : ByteArray) : (s.toList == ([] : List UInt8)) = decide (s.size = 0) := by
 by_cases h : s.size = 0
 ·rw [nil_list h,decide_eq_true h];rfl
 ·rw [beq_eq_false_iff_ne.2 (not_nil_list h),decide_eq_false h]
theorem sGood_j1 (k n : Int) (t ty : ByteArray) (ht : t.size ≤ 9223372036854775807) (hty : ty.size ≤ 9223372036854775807) (hn : k = 6 → okI n) (h3 : k ≠ 1) (hA : k ≠ 3 → k ≠ 4 → t.size = 0) (hB : k ≠ 4 → ty.size = 0) (b : Bool) (hb : b = decide (k = 2 ∨ k = 5)) : Ev (fun f => wx.j1 f k b k n t ty) (goodAtom k n t ty) := by
 refine Ev.upA ?_
 simp only [wx.j1,hb]
 unfold goodAtom
 rw [if_neg h3]
 by_cases c1 : k = 2 ∨ k = 5
 ·simp only [decide_eq_true c1,if_true,if_pos c1,noTexts]
  rw [hA (by omega) (by omega),hB (by omega)]
  exact Ev.now _
 simp only [decide_eq_false c1,Bool.false_eq_true,if_false,if_neg c1]
 by_cases c3 : k = 3
 ·simp only [if_pos c3]
  by_cases hz : n = 0
  ·simp only [if_pos hz,decide_eq_true (show n = 0 ∧ ty.size = 0 from ⟨hz,hB (by omega)⟩),Bool.true_and]
   by_cases hs : t.size ≤ 200
   ·simp only [if_pos (show (t.size : Int) ≤ 200 by omega),decide_eq_true hs,Bool.true_and]
    exact Ev.bind ⟨t.size + 1,fun k hk => l1Printed_eq t ht k (by omega)⟩ (Ev.now _)
   ·simp only [if_neg (show ¬ (t.size : Int) ≤ 200 by omega),decide_eq_false hs,Bool.false_and]
    exact Ev.now _
  ·simp only [if_neg hz,decide_eq_false (show ¬ (n = 0 ∧ ty.size = 0) from fun h => hz h.1),Bool.false_and]
   exact Ev.now _
 simp only [if_neg c3]
 by_cases c4 : k = 4
 ·simp only [if_pos c4]
  by_cases hz : n = 0
  ·simp only [if_pos hz,decide_eq_true hz,Bool.true_and]
   refine Ev.bind (specName_ev ty hty) ?_
   by_cases hg : goodName ty = true
   ·simp only [hg,if_true,Bool.true_and]
    by_cases h1 : 1 ≤ t.size
    ·simp only [if_pos (show (t.size : Int) ≥ 1 by omega)]
     by_cases hs : t.size ≤ 200
     ·simp only [if_pos (show (t.size : Int) ≤ 200 by omega),decide_eq_true (show 1 ≤ t.size ∧ t.size ≤ 200 from ⟨h1,hs⟩),Bool.true_and]
      exact Ev.bind ⟨t.size + 1,fun k hk => l1Printed_eq t ht k (by omega)⟩ (Ev.now _)
     ·simp only [if_neg (show ¬ (t.size : Int) ≤ 200 by omega),decide_eq_false (show ¬ (1 ≤ t.size ∧ t.size ≤ 200) from fun h => hs h.2),Bool.false_and]
      exact Ev.now _
    ·simp only [if_neg (show ¬ (t.size : Int) ≥ 1 by omega),decide_eq_false (show ¬ (1 ≤ t.size ∧ t.size ≤ 200) from fun h => h1 h.1),Bool.false_and]
     exact Ev.now _
   ·simp only [eq_false_of_ne_true hg,Bool.false_eq_true,if_false,Bool.false_and]
    exact Ev.now _
  ·simp only [if_neg hz,decide_eq_false hz,Bool.false_and]
   exact Ev.now _
 simp only [if_neg c4]
 have hNT : noTexts t ty = true := by unfold noTexts;rw [hA c3 c4,hB c4];rfl
 rw [hNT,Bool.true_and,Bool.true_and]
 by_cases c6 : k = 6
 ·simp only [if_pos c6]
  have hi := hn c6
  have hi1 : -9223372036854775808 ≤ n := hi.1
  have hi2 : n ≤ 9223372036854775807 := by have := hi.2;omega
  by_cases h0 : n < 0
  ·simp only [if_pos h0,decide_eq_false (show ¬ blkOk n from fun h => by have := h.1;omega)]
   exact Ev.now _
  simp only [if_neg h0]
  have e32 : Ev (fun f => qqq.f f 32) 4294967296 := ⟨40,fun k hk => pow2_eq 32 (by omega) k (by omega)⟩
  refine Ev.bind e32 ?_
  have ed : wrap64 (Int.tdiv n 64) = n / 64 := by rw [Int.tdiv_eq_ediv_of_nonneg (by omega),w64 (by omega) (by omega)]
  have em : Int.tmod n 64 = n % 64 := Int.tmod_eq_emod_of_nonneg (by omega)
  have e1 : wrap64 ((4294967296 : Int) - 1) = 4294967295 := w64 (by omega) (by omega)
  simp only [ed,em,e1]
  by_cases h1 : n / 64 > 4294967295
  ·simp only [if_pos h1,decide_eq_false (show ¬ blkOk n from fun h => by have := h.2.2.1;omega)]
   exact Ev.now _
  by_cases h2 : n % 64 > 32
  ·simp only [if_neg h1,if_pos h2,decide_eq_false (show ¬ blkOk n from fun h => by have := h.2.1;omega)]
   exact Ev.now _
  simp only [if_neg h1,if_neg h2]
  have ew : wrap64 (32 - n % 64) = ((32 - n % 64).toNat : Int) := by rw [w64 (by omega) (by omega)];omega
  have hlt : (32 - n % 64).toNat ≤ 32 := by omega
  have eb : Ev (fun f => xk.f f k n t ty) (n / 64,2 ^ (32 - n % 64).toNat) := by
   simp only [xk.f,ed,em,ew]
   exact Ev.bind ⟨40,fun k hk => pow2_eq _ (by omega) k (by omega)⟩ (Ev.now _)
  refine Ev.bind eb ?_
  have hp := pow_pos2 (32 - n % 64).toNat
  have emod : Int.tmod (n / 64) (2 ^ (32 - n % 64).toNat) = n / 64 % 2 ^ (32 - n % 64).toNat := Int.tmod_eq_emod_of_nonneg (by omega)
  simp only [if_neg (show ¬ (2 : Int) ^ (32 - n % 64).toNat = 0 by omega),emod]
  have : (n / 64 % 2 ^ (32 - n % 64).toNat == 0) = decide (blkOk n) := by
   rw [Bool.eq_iff_iff,beq_iff_eq,decide_eq_true_iff]
   exact ⟨fun h => ⟨by omega,by omega,by omega,h⟩,fun h => h.2.2.2⟩
  rw [this]
  exact Ev.now _
 simp only [if_neg c6]
 by_cases c7 : k = 7
 ·simp only [if_pos c7]
  by_cases h1 : n ≥ -100000000000
  ·simp only [if_pos h1]
   rw [decide_eq_decide.2 (show (n ≤ 100000000000) ↔ (-100000000000 ≤ n ∧ n ≤ 100000000000) by omega)]
   exact Ev.now _
  ·simp only [if_neg h1]
   rw [decide_eq_false (show ¬ (-100000000000 ≤ n ∧ n ≤ 100000000000) by omega)]
   exact Ev.now _
 ·simp only [if_neg c7]
  exact Ev.now _
theorem good_bad {k n : Int} {t ty : ByteArray} (h : (k ≠ 3 ∧ k ≠ 4 ∧ t.size ≠ 0) ∨ (k ≠ 4 ∧ ty.size ≠ 0)) : goodAtom k n t ty = false := by
 unfold goodAtom
 have hN : k ≠ 3 → k ≠ 4 → noTexts t ty = false := fun h3 h4 => by
  unfold noTexts
  rcases h with h | h
  ·rw [decide_eq_false h.2.2,Bool.false_and]
  ·rw [decide_eq_false h.2,Bool.and_false]
 by_cases c1 : k = 1
 ·rw [if_pos c1,hN (by omega) (by omega),Bool.false_and]
 rw [if_neg c1]
 by_cases c2 : k = 2 ∨ k = 5
 ·rw [if_pos c2,hN (by omega) (by omega)]
 rw [if_neg c2]
 by_cases c3 : k = 3
 ·rw [if_pos c3,decide_eq_false (show ¬ (n = 0 ∧ ty.size = 0) from fun g => h.elim (fun h => h.1 c3) (fun h => h.2 g.2)),Bool.false_and]
 rw [if_neg c3]
 by_cases c4 : k = 4
 ·rcases h with h | h
  ·exact absurd c4 h.2.1
  ·exact absurd c4 h.1
 rw [if_neg c4,hN c3 c4,Bool.false_and,Bool.false_and]
 simp
theorem specGoodAtom_ev (k n : Int) (t ty : ByteArray) (ht : t.size ≤ 9223372036854775807) (hty : ty.size ≤ 9223372036854775807) (hn : k = 6 → okI n) : Ev (fun f => wx.f f k n t ty) (goodAtom k n t ty) := by
 have hbad : goodAtom k n t ty = false → Ev (fun f => wx.j0 f true k n t ty) (goodAtom k n t ty) := fun h => by
  refine Ev.upA ?_
  simp only [wx.j0,if_true,h]
  exact Ev.now _
 have hgo : (k ≠ 3 → k ≠ 4 → t.size = 0) → (k ≠ 4 → ty.size = 0) → Ev (fun f => wx.j0 f false k n t ty) (goodAtom k n t ty) := fun hA hB => by
  refine Ev.upA ?_
  simp only [wx.j0,Bool.false_eq_true,if_false]
  by_cases c1 : k = 1
  ·simp only [if_pos c1]
   have hNT : noTexts t ty = true := by unfold noTexts;rw [hA (by omega) (by omega),hB (by omega)];rfl
   rw [goodAtom,if_pos c1,hNT,Bool.true_and]
   by_cases hz : n = 0
   ·simp only [if_pos hz,decide_eq_true (show n = 0 ∨ n = 1 from .inl hz)];exact Ev.now _
   ·simp only [if_neg hz]
    have : (n == 1) = decide (n = 0 ∨ n = 1) := by
     rw [Bool.eq_iff_iff,beq_iff_eq,decide_eq_true_iff]
     omega
    rw [this]
    exact Ev.now _
  simp only [if_neg c1]
  by_cases c2 : k = 2
  ·simp only [if_pos c2]
   refine sGood_j1 k n t ty ht hty hn c1 hA hB _ ?_
   rw [Bool.eq_iff_iff,beq_iff_eq,decide_eq_true_iff];omega
  ·simp only [if_neg c2]
   refine sGood_j1 k n t ty ht hty hn c1 hA hB _ ?_
   rw [Bool.eq_iff_iff,beq_iff_eq,decide_eq_true_iff];omega
 simp only [wx.f,bne_nil]
 by_cases c3 : k = 3
 ·simp only [if_pos c3,if_neg (show ¬ k = 4 by omega)]
  by_cases hz : ty.size = 0
  ·rw [decide_eq_true hz];exact hgo (fun h => absurd c3 h) (fun _ => hz)
  ·rw [decide_eq_false hz];exact hbad (good_bad (.inr ⟨by omega,hz⟩))
 simp only [if_neg c3]
 by_cases c4 : k = 4
 ·simp only [if_pos c4]
  exact hgo (fun _ h => absurd c4 h) (fun h => absurd c4 h)
 simp only [if_neg c4]
 by_cases hz : t.size = 0
 ·simp only [if_pos (nil_list hz)]
  by_cases hz2 : ty.size = 0
  ·rw [decide_eq_true hz2];exact hgo (fun _ _ => hz) (fun _ => hz2)
  ·rw [decide_eq_false hz2];exact hbad (good_bad (.inr ⟨c4,hz2⟩))
 ·simp only [if_neg (not_nil_list hz)]
  exact hbad (good_bad (.inl ⟨c3,c4,hz⟩))
theorem shl_fin : ∀ e : Fin 33,shl .i64 1 ((e.val : Nat) : Int) = 2 ^ e.val := by decide +kernel
theorem iGood_j1 (k n : Int) (t ty : ByteArray) (ht : t.size ≤ 9223372036854775807) (hty : ty.size ≤ 9223372036854775807) (hn : k = 6 → okI n) (h3 : k ≠ 1) (b : Bool) (hb : b = decide (k = 2 ∨ k = 5)) : Ev (fun f => kv.j1 f (noTexts t ty) k b k n t ty) (goodAtom k n t ty) := by
 refine Ev.upA ?_
 simp only [kv.j1,hb]
 unfold goodAtom
 rw [if_neg h3]
 by_cases c1 : k = 2 ∨ k = 5
 ·simp only [decide_eq_true c1,if_true,if_pos c1]
  exact Ev.now _
 simp only [decide_eq_false c1,Bool.false_eq_true,if_false,if_neg c1]
 by_cases c3 : k = 3
 ·simp only [if_pos c3]
  by_cases hz : n = 0
  ·simp only [if_pos hz]
   by_cases hz2 : ty.size = 0
   ·simp only [if_pos (nil_list hz2),decide_eq_true (show n = 0 ∧ ty.size = 0 from ⟨hz,hz2⟩),Bool.true_and]
    refine Ev.bind ⟨t.size + 2,fun k hk => yprinted_eq t 0 200 ht k (by omega)⟩ ?_
    rw [decide_eq_true (show (0 : Int) ≤ (t.size : Int) by omega),Bool.true_and,decide_eq_decide.2 (show ((t.size : Int) ≤ 200) ↔ t.size ≤ 200 by omega)]
    exact Ev.now _
   ·simp only [if_neg (not_nil_list hz2),decide_eq_false (show ¬ (n = 0 ∧ ty.size = 0) from fun h => hz2 h.2),Bool.false_and]
    exact Ev.now _
  ·simp only [if_neg hz,decide_eq_false (show ¬ (n = 0 ∧ ty.size = 0) from fun h => hz h.1),Bool.false_and]
   exact Ev.now _
 simp only [if_neg c3]
 by_cases c4 : k = 4
 ·simp only [if_pos c4]
  by_cases hz : n = 0
  ·simp only [if_pos hz,decide_eq_true hz,Bool.true_and]
   refine Ev.bind (implName_ev ty hty) ?_
   by_cases hg : goodName ty = true
   ·simp only [hg,if_true,Bool.true_and]
    refine Ev.bind ⟨t.size + 2,fun k hk => yprinted_eq t 1 200 ht k (by omega)⟩ ?_
    rw [← Bool.decide_and,decide_eq_decide.2 (show ((1 : Int) ≤ (t.size : Int) ∧ (t.size : Int) ≤ 200) ↔ (1 ≤ t.size ∧ t.size ≤ 200) by omega)]
    exact Ev.now _
   ·simp only [eq_false_of_ne_true hg,Bool.false_eq_true,if_false,Bool.false_and]
    exact Ev.now _
  ·simp only [if_neg hz,decide_eq_false hz,Bool.false_and]
   exact Ev.now _
 simp only [if_neg c4]
 rcases hNT : noTexts t ty with _ | _
 ·simp only [Bool.false_eq_true,if_false,Bool.false_and]
  rw [show (if k = 6 then some false else if k = 7 then some false else some false) = some false by split <;> (try split) <;> rfl,show (if k = 6 then false else if k = 7 then false else false) = false by split <;> (try split) <;> rfl]
  exact Ev.now _
 simp only [if_true,Bool.true_and]
 by_cases c6 : k = 6
 ·simp only [if_pos c6]
  have hi := hn c6
  have hi1 : -9223372036854775808 ≤ n := hi.1
  have hi2 : n ≤ 9223372036854775807 := by have := hi.2;omega
  by_cases h0 : n < 0
  ·simp only [if_pos h0,decide_eq_false (show ¬ blkOk n from fun h => by have := h.1;omega)]
   exact Ev.now _
  simp only [if_neg h0]
  have ed : wrap64 (Int.tdiv n 64) = n / 64 := by rw [Int.tdiv_eq_ediv_of_nonneg (by omega),w64 (by omega) (by omega)]
  have em : Int.tmod n 64 = n % 64 := Int.tmod_eq_emod_of_nonneg (by omega)
  simp only [ed,em]
  by_cases h2 : n % 64 ≤ 32
  case neg =>
   simp only [if_neg h2,decide_eq_false (show ¬ blkOk n from fun h => h2 h.2.1)]
   exact Ev.now _
  by_cases h1 : n / 64 < 4294967296
  case neg =>
   simp only [if_pos h2,if_neg h1,decide_eq_false (show ¬ blkOk n from fun h => h1 h.2.2.1)]
   exact Ev.now _
  have ew : wrap64 (32 - n % 64) = ((32 - n % 64).toNat : Int) := by rw [w64 (by omega) (by omega)];omega
  have hlt : (32 - n % 64).toNat < 33 := by omega
  have esh := shl_fin ⟨(32 - n % 64).toNat,hlt⟩
  have hp := pow_pos2 (32 - n % 64).toNat
  have emod : Int.tmod (n / 64) (2 ^ (32 - n % 64).toNat) = n / 64 % 2 ^ (32 - n % 64).toNat := Int.tmod_eq_emod_of_nonneg (by omega)
  simp only [if_pos h2,if_pos h1,ew,if_pos (Int.natCast_nonneg _),esh,if_neg (show ¬ (2 : Int) ^ (32 - n % 64).toNat = 0 by omega),emod]
  have : (n / 64 % 2 ^ (32 - n % 64).toNat == 0) = decide (blkOk n) := by
   rw [Bool.eq_iff_iff,beq_iff_eq,decide_eq_true_iff]
   exact ⟨fun h => ⟨by omega,by omega,by omega,h⟩,fun h => h.2.2.2⟩
  rw [this]
  exact Ev.now _
 simp only [if_neg c6]
 by_cases c7 : k = 7
 ·simp only [if_pos c7]
  by_cases h1 : n ≥ -100000000000
  ·simp only [if_pos h1]
   rw [decide_eq_decide.2 (show (n ≤ 100000000000) ↔ (-100000000000 ≤ n ∧ n ≤ 100000000000) by omega)]
   exact Ev.now _
  ·simp only [if_neg h1]
   rw [decide_eq_false (show ¬ (-100000000000 ≤ n ∧ n ≤ 100000000000) by omega)]
   exact Ev.now _
 ·simp only [if_neg c7]
  exact Ev.now _
theorem implGoodAtom_ev (k n : Int) (t ty : ByteArray) (ht : t.size ≤ 9223372036854775807) (hty : ty.size ≤ 9223372036854775807) (hn : k = 6 → okI n) : Ev (fun f => kv.f f k n t ty) (goodAtom k n t ty) := by
 have hj : Ev (fun f => kv.j0 f (noTexts t ty) k n t ty) (goodAtom k n t ty) := by
  refine Ev.upA ?_
  simp only [kv.j0]
  by_cases c1 : k = 1
  ·simp only [if_pos c1]
   rw [goodAtom,if_pos c1]
   rcases hNT : noTexts t ty with _ | _
   ·simp only [Bool.false_eq_true,if_false,Bool.false_and];exact Ev.now _
   simp only [if_true,Bool.true_and]
   by_cases hz : n = 0
   ·simp only [if_pos hz,decide_eq_true (show n = 0 ∨ n = 1 from .inl hz)];exact Ev.now _
   ·simp only [if_neg hz]
    have : (n == 1) = decide (n = 0 ∨ n = 1) := by
     rw [Bool.eq_iff_iff,beq_iff_eq,decide_eq_true_iff]
     omega
    rw [this]
    exact Ev.now _
  simp only [if_neg c1]
  by_cases c2 : k = 2
  ·simp only [if_pos c2]
   refine iGood_j1 k n t ty ht hty hn c1 _ ?_
   rw [Bool.eq_iff_iff,beq_iff_eq,decide_eq_true_iff];omega
  ·simp only [if_neg c2]
   refine iGood_j1 k n t ty ht hty hn c1 _ ?_
   rw [Bool.eq_iff_iff,beq_iff_eq,decide_eq_true_iff];omega
 simp only [kv.f,beq_nil]
 by_cases hz : t.size = 0
 ·simp only [if_pos (nil_list hz)]
  rw [show decide (ty.size = 0) = noTexts t ty by unfold noTexts;rw [decide_eq_true hz,Bool.true_and]]
  exact hj
 ·simp only [if_neg (not_nil_list hz)]
  rw [show false = noTexts t ty by unfold noTexts;rw [decide_eq_false hz,Bool.false_and]]
  exact hj
def intsOf (l : List UInt8) : List Int := l.map fun b => (b.toNat : Int)
theorem intsOf_append (a b : List UInt8) : intsOf (a ++ b) = intsOf a ++ intsOf b := by simp [intsOf]
theorem strOf_ints (l : List UInt8) : strOfNums (intsOf l) = ⟨l.toArray⟩ := by
 unfold strOfNums intsOf
 apply ByteArray.ext
 show (List.map _ (List.map _ l)).toArray = l.toArray
 rw [List.map_map]
 congr 1
 conv => rhs;rw [← List.map_id l]
 apply List.map_congr_left
 intro b _
 show UInt8.ofNat ((b.toNat : Int)).toNat = b
 rw [Int.toNat_natCast,UInt8.ofNat_toNat]
theorem escL_le (l : List UInt8) : (l.flatMap escU).length ≤ 2 * l.length := by
 induction l with
 | nil => exact Nat.zero_le _
 | cons b l ih => have := escU_len b;rw [List.flatMap_cons,List.length_append,List.length_cons];omega
theorem btq_list (s : ByteArray) (i : Nat) (h : i < s.data.toList.length) : bt s (i : Int) = ((s.data.toList[i]).toNat : Int) := by
 have h' : i < s.size := by rw [data_length] at h;exact h
 exact (bt_at s (i : Int) h').symm
theorem quoted_l0 (s : ByteArray) (hs : s.size ≤ 1000000) (d : Nat) : ∀ (k i : Nat),i + d = s.size → d < k →
  qqj.l0 k s (intsOf (34 :: (s.data.toList.take i).flatMap escU)) (i : Int) = some (quoteB s) := by
 induction d with
 | zero =>
  intro k i hi hk
  obtain ⟨k,rfl⟩ : ∃ m,k = m + 1 := ⟨k - 1,by omega⟩
  obtain rfl : i = s.size := by omega
  have hl := escL_le s.data.toList
  rw [data_length] at hl
  rw [qqj.l0,if_neg (by omega),List.take_of_length_le (by rw [data_length];exact Nat.le_refl _),if_pos (by simp only [intsOf,List.length_map,List.length_cons];omega)]
  rw [show ([34] : List Int) = intsOf [34] from rfl,← intsOf_append,strOf_ints]
  congr 1
 | succ d ih =>
  intro k i hi hk
  obtain ⟨k,rfl⟩ : ∃ m,k = m + 1 := ⟨k - 1,by omega⟩
  have hil : i < s.data.toList.length := by rw [data_length];omega
  have hl := escL_le (s.data.toList.take i)
  rw [List.length_take,data_length] at hl
  have e2 : wrap64 ((i : Int) + 1) = ((i + 1 : Nat) : Int) := by rw [w64 (by omega) (by omega)];rfl
  have hstep : intsOf (34 :: (s.data.toList.take (i + 1)).flatMap escU) = intsOf (34 :: (s.data.toList.take i).flatMap escU) ++ intsOf (escU s.data.toList[i]) := by
   rw [List.take_succ_eq_append_getElem hil,List.flatMap_append,← intsOf_append]
   simp
  have ih2 := ih k (i + 1) (by omega) (by omega)
  rw [hstep] at ih2
  have hlen : (intsOf (34 :: (s.data.toList.take i).flatMap escU)).length ≤ 3000000 := by simp only [intsOf,List.length_map,List.length_cons];omega
  rw [qqj.l0,if_pos (by omega),if_pos (by omega),btq_list s i hil,e2]
  obtain ⟨u,eu⟩ : ∃ u,u = s.data.toList[i] := ⟨_,rfl⟩
  obtain ⟨X,eX⟩ : ∃ X,X = intsOf (34 :: (s.data.toList.take i).flatMap escU) := ⟨_,rfl⟩
  rw [← eu,← eX] at ih2
  rw [← eX] at hlen
  rw [← eu,← eX]
  by_cases h34 : (u.toNat : Int) = 34
  ·have hu : u = 34 := UInt8.toNat_inj.1 (show u.toNat = 34 by omega)
   rw [hu] at ih2 ⊢
   rw [show intsOf (escU 34) = [92,34] from rfl] at ih2
   rw [if_pos (by rfl),if_pos (by omega),Option.bind_some,if_pos (by rw [List.length_append,List.length_singleton];omega),List.append_assoc]
   exact ih2
  ·by_cases h92 : (u.toNat : Int) = 92
   ·have hu : u = 92 := UInt8.toNat_inj.1 (show u.toNat = 92 by omega)
    rw [hu] at ih2 ⊢
    rw [show intsOf (escU 92) = [92,92] from rfl] at ih2
    rw [if_neg (by decide),if_pos (by rfl),if_pos (by omega),Option.bind_some,if_pos (by rw [List.length_append,List.length_singleton];omega),List.append_assoc]
    exact ih2
   ·have hn : ¬ (u = 34 ∨ u = 92) := fun h => h.elim (fun e => h34 (by rw [e];rfl)) (fun e => h92 (by rw [e];rfl))
    have he : intsOf (escU u) = [(u.toNat : Int)] := by unfold escU;rw [if_neg hn];rfl
    rw [he] at ih2
    rw [if_neg h34,if_neg h92,if_pos (by omega)]
    exact ih2
theorem l1Quoted_ev (s : ByteArray) (hs : s.size ≤ 1000000) : Ev (fun k => qqj.f k s) (quoteB s) :=
 ⟨s.size + 1,fun k hk => quoted_l0 s hs s.size k 0 (by omega) (by omega)⟩
theorem yquote_eq (s : ByteArray) (hs : s.size ≤ 1000000) : vx.f s = some (quoteB s) := by
 unfold vx.f
 rw [if_pos hs]
theorem quoteB_le (s : ByteArray) : (quoteB s).size ≤ 2 * s.size + 2 := by
 have h := escL_le s.data.toList
 rw [data_length] at h
 unfold quoteB
 rw [ByteArray.size_append,ByteArray.size_append]
 have e : (escB s).size = (s.data.toList.flatMap escU).length := rfl
 rw [e,show (⟨#[34]⟩ : ByteArray).size = 1 from rfl]
 omega
def digS (d : Nat) : ByteArray := ⟨#[UInt8.ofNat (48 + d)]⟩
theorem dig_fin : ∀ d : Fin 10,(strOfNums [((48 + (d.val : Int))) % 256]).data = (digS d.val).data := by decide +kernel
theorem dig_eq {d : Nat} (h : d < 10) : strOfNums [((48 + (d : Int))) % 256] = digS d := ByteArray.ext (dig_fin ⟨d,h⟩)
def decS (u : Nat) : ByteArray := ⟨(Lib.decDigits u).toArray⟩
theorem decS_small {u : Nat} (h : u < 10) : decS u = digS u := by
 unfold decS digS
 rw [Lib.decDigits,dif_pos h]
theorem decS_big {u : Nat} (h : ¬ u < 10) : decS u = decS (u / 10) ++ digS (u % 10) := by
 apply ByteArray.ext
 unfold decS digS
 rw [Lib.decDigits,dif_neg h]
 simp
theorem digS_size (d : Nat) : (digS d).size = 1 := rfl
theorem size_l0 (u : Nat) : 0 < u → ∃ K,∀ k,K ≤ k → ∀ acc : ByteArray,acc.size + u ≤ 9000000000000000000 → qqk.l0 k (u : Int) acc = some (decS u ++ acc) := by
 induction u using Nat.strongRecOn with
 | _ u ih =>
  intro hu
  by_cases h : u < 10
  ·refine ⟨2,fun k hk acc hacc => ?_⟩
   obtain ⟨k,rfl⟩ : ∃ m,k = m + 1 + 1 := ⟨k - 2,by omega⟩
   have e1 : Int.tmod (u : Int) 10 = (u : Int) := by rw [Int.tmod_eq_emod_of_nonneg (by omega)];omega
   have e2 : Int.tdiv (u : Int) 10 = 0 := by rw [Int.tdiv_eq_ediv_of_nonneg (by omega)];omega
   have e3 : wrap64 (48 + (u : Int)) = 48 + (u : Int) := w64 (by omega) (by omega)
   have e4 : wrap64 0 = 0 := w64 (by omega) (by omega)
   simp only [qqk.l0,if_neg (show ¬ ((u : Int) = 0) by omega),e1,e2,e3,e4,if_neg (show ¬ ((u : Int) < 0) by omega),Option.bind_some,dig_eq h,digS_size,if_pos (show 1 + acc.size ≤ 9223372036854775807 by omega),if_true]
   rw [decS_small h]
  ·obtain ⟨K,hK⟩ := ih (u / 10) (by omega) (by omega)
   refine ⟨K + 1,fun k hk acc hacc => ?_⟩
   obtain ⟨k,rfl⟩ : ∃ m,k = m + 1 := ⟨k - 1,by omega⟩
   have e1 : Int.tmod (u : Int) 10 = ((u % 10 : Nat) : Int) := by rw [Int.tmod_eq_emod_of_nonneg (by omega)];omega
   have e2 : wrap64 (Int.tdiv (u : Int) 10) = ((u / 10 : Nat) : Int) := by rw [Int.tdiv_eq_ediv_of_nonneg (by omega),w64 (by omega) (by omega)];omega
   have e3 : wrap64 (48 + ((u % 10 : Nat) : Int)) = 48 + ((u % 10 : Nat) : Int) := w64 (by omega) (by omega)
   simp only [qqk.l0,if_neg (show ¬ ((u : Int) = 0) by omega),e1,e2,e3,if_neg (show ¬ (((u % 10 : Nat) : Int) < 0) by omega),Option.bind_some,dig_eq (show u % 10 < 10 by omega),digS_size,if_pos (show 1 + acc.size ≤ 9223372036854775807 by omega)]
   rw [hK k (by omega) _ (by rw [ByteArray.size_append,digS_size];omega),decS_big h,ByteArray.append_assoc]
theorem itoa_nat (u : Nat) : (⟨(Lib.itoa (u : Int)).toArray⟩ : ByteArray) = decS u := by
 unfold Lib.itoa
 rw [if_neg (by omega),Int.toNat_natCast]
 rfl
theorem l1Num_ev (u : Nat) (h : u ≤ 8000000000000000000) : Ev (fun k => xx.f k (u : Int)) (decS u) := by
 rcases Nat.eq_zero_or_pos u with rfl | hu
 ·refine ⟨0,fun k _ => ?_⟩
  have : decS 0 = (⟨#[48]⟩ : ByteArray) := by rw [decS_small (by omega)];rfl
  rw [this]
  rfl
 ·obtain ⟨K,hK⟩ := size_l0 u hu
  refine ⟨K,fun k hk => ?_⟩
  show xx.f k (u : Int) = _
  simp only [xx.f,qqk.f,if_neg (show ¬ ((u : Int) < 0) by omega),if_neg (show ¬ ((u : Int) = 0) by omega)]
  rw [hK k hk _ (by show 0 + u ≤ _;omega),Option.bind_some]
  congr 1
  apply ByteArray.ext
  simp
theorem itoa_eq (u : Nat) (h : u ≤ 8000000000000000000) : strconv_Itoa.f (u : Int) = some (decS u) := by
 unfold strconv_Itoa.f
 rw [if_pos ⟨by omega,by omega⟩,itoa_nat]
theorem decS_len (u : Nat) : ∀ k,u < 10 ^ (k + 1) → (decS u).size ≤ k + 1 := by
 induction u using Nat.strongRecOn with
 | _ u ih =>
  intro k hk
  by_cases h : u < 10
  ·rw [decS_small h,digS_size];omega
  ·rcases k with _ | k
   ·omega
   ·rw [decS_big h,ByteArray.size_append,digS_size]
    have := ih (u / 10) (by omega) k (by rw [Nat.pow_succ] at hk;omega)
    omega
def numS (n : Int) : ByteArray := ⟨(Lib.itoa n).toArray⟩
theorem numS_nat (u : Nat) : numS (u : Int) = decS u := itoa_nat u
theorem numS_neg (u : Nat) (h : 0 < u) : numS (-(u : Int)) = (⟨#[45]⟩ : ByteArray) ++ decS u := by
 unfold numS decS
 apply ByteArray.ext
 rw [show Lib.itoa (-(u : Int)) = 45 :: Lib.decDigits u by unfold Lib.itoa;rw [if_pos (by omega)];simp]
 simp
theorem itoa_all (n : Int) (h : okI n) : strconv_Itoa.f n = some (numS n) := by
 have h1 := h.1
 have h2 := h.2
 unfold strconv_Itoa.f
 rw [if_pos ⟨by omega,by omega⟩]
 rfl
theorem sizeA_pos (m : Nat) : ∀ (u : Nat),0 < u → u ≤ 9223372036854775807 → u < 10 ^ (m + 1) → ∀ (k : Nat) (acc : ByteArray),m + 1 < k → acc.size + m ≤ 1000000 → qqk.l0 k (u : Int) acc = some (decS u ++ acc) := by
 induction m with
 | zero =>
  intro u hu hm h k acc hk hacc
  obtain ⟨k,rfl⟩ : ∃ m,k = m + 1 + 1 := ⟨k - 2,by omega⟩
  have h10 : u < 10 := by omega
  have e1 : Int.tmod (u : Int) 10 = (u : Int) := by rw [Int.tmod_eq_emod_of_nonneg (by omega)];omega
  have e2 : Int.tdiv (u : Int) 10 = 0 := by rw [Int.tdiv_eq_ediv_of_nonneg (by omega)];omega
  have e3 : wrap64 (48 + (u : Int)) = 48 + (u : Int) := w64 (by omega) (by omega)
  have e4 : wrap64 0 = 0 := w64 (by omega) (by omega)
  simp only [qqk.l0,if_neg (show ¬ ((u : Int) = 0) by omega),e1,e2,e3,e4,if_neg (show ¬ ((u : Int) < 0) by omega),Option.bind_some,dig_eq h10,digS_size,if_pos (show 1 + acc.size ≤ 9223372036854775807 by omega),if_true]
  rw [decS_small h10]
 | succ m ih =>
  intro u hu hm h k acc hk hacc
  obtain ⟨k,rfl⟩ : ∃ m,k = m + 1 := ⟨k - 1,by omega⟩
  have e1 : Int.tmod (u : Int) 10 = ((u % 10 : Nat) : Int) := by rw [Int.tmod_eq_emod_of_nonneg (by omega)];omega
  have e2 : wrap64 (Int.tdiv (u : Int) 10) = ((u / 10 : Nat) : Int) := by rw [Int.tdiv_eq_ediv_of_nonneg (by omega),w64 (by omega) (by omega)];omega
  have e3 : wrap64 (48 + ((u % 10 : Nat) : Int)) = 48 + ((u % 10 : Nat) : Int) := w64 (by omega) (by omega)
  simp only [qqk.l0,if_neg (show ¬ ((u : Int) = 0) by omega),e1,e2,e3,if_neg (show ¬ (((u % 10 : Nat) : Int) < 0) by omega),Option.bind_some,dig_eq (show u % 10 < 10 by omega),digS_size,if_pos (show 1 + acc.size ≤ 9223372036854775807 by omega)]
  by_cases hs : u < 10
  ·obtain ⟨k,rfl⟩ : ∃ m,k = m + 1 := ⟨k - 1,by omega⟩
   rw [show u / 10 = 0 by omega,decS_small hs,show u % 10 = u by omega]
   simp only [qqk.l0,show ((0 : Nat) : Int) = 0 from rfl,if_true]
  ·rw [ih (u / 10) (by omega) (by omega) (by rw [Nat.pow_succ] at h;omega) k _ (by omega) (by rw [ByteArray.size_append,digS_size];omega),decS_big hs,ByteArray.append_assoc]
theorem sizeA_neg (m : Nat) : ∀ (u : Nat),0 < u → u ≤ 9223372036854775808 → u < 10 ^ (m + 1) → ∀ (k : Nat) (acc : ByteArray),m + 1 < k → acc.size + m ≤ 1000000 → qqk.l0 k (-(u : Int)) acc = some (decS u ++ acc) := by
 have step : ∀ (u : Nat),0 < u → u ≤ 9223372036854775808 → ∀ (k : Nat) (acc : ByteArray),acc.size ≤ 1000000 → qqk.l0 (k + 1) (-(u : Int)) acc = qqk.l0 k (-((u / 10 : Nat) : Int)) (digS (u % 10) ++ acc) := by
  intro u hu hm k acc hacc
  have e1 : Int.tmod (-(u : Int)) 10 = -((u % 10 : Nat) : Int) := by rw [Int.neg_tmod,Int.tmod_eq_emod_of_nonneg (by omega)];omega
  have e2 : wrap64 (Int.tdiv (-(u : Int)) 10) = -((u / 10 : Nat) : Int) := by rw [Int.neg_tdiv,Int.tdiv_eq_ediv_of_nonneg (by omega),w64 (by omega) (by omega)];omega
  have e3 : wrap64 (48 + ((u % 10 : Nat) : Int)) = 48 + ((u % 10 : Nat) : Int) := w64 (by omega) (by omega)
  have e5 : wrap64 ((u % 10 : Nat) : Int) = ((u % 10 : Nat) : Int) := w64 (by omega) (by omega)
  rw [qqk.l0,if_neg (show ¬ (-(u : Int) = 0) by omega),e1,e2]
  by_cases hz : u % 10 = 0
  ·rw [hz]
   simp only [show -((0 : Nat) : Int) = 0 from rfl,if_neg (show ¬ ((0 : Int) < 0) by decide),Option.bind_some]
   rw [show ([(wrap64 (48 + 0)) % 256] : List Int) = [((48 + ((0 : Nat) : Int))) % 256] by rw [w64 (by omega) (by omega)];rfl,dig_eq (show 0 < 10 by decide),if_pos (by rw [digS_size];omega)]
  ·rw [if_pos (show -((u % 10 : Nat) : Int) < 0 by omega)]
   simp only [Int.neg_neg,e5,e3,Option.bind_some,dig_eq (show u % 10 < 10 by omega),digS_size,if_pos (show 1 + acc.size ≤ 9223372036854775807 by omega)]
 induction m with
 | zero =>
  intro u hu hm h k acc hk hacc
  obtain ⟨k,rfl⟩ : ∃ m,k = m + 1 + 1 := ⟨k - 2,by omega⟩
  have h10 : u < 10 := by omega
  rw [step u hu hm (k + 1) acc (by omega),show u / 10 = 0 by omega,show u % 10 = u by omega,decS_small h10]
  simp only [qqk.l0,show -((0 : Nat) : Int) = 0 from rfl,if_true]
 | succ m ih =>
  intro u hu hm h k acc hk hacc
  obtain ⟨k,rfl⟩ : ∃ m,k = m + 1 := ⟨k - 1,by omega⟩
  rw [step u hu hm k acc (by omega)]
  by_cases hs : u < 10
  ·obtain ⟨k,rfl⟩ : ∃ m,k = m + 1 := ⟨k - 1,by omega⟩
   rw [show u / 10 = 0 by omega,decS_small hs,show u % 10 = u by omega]
   simp only [qqk.l0,show -((0 : Nat) : Int) = 0 from rfl,if_true]
  ·rw [ih (u / 10) (by omega) (by omega) (by rw [Nat.pow_succ] at h;omega) k _ (by omega) (by rw [ByteArray.size_append,digS_size];omega),decS_big hs,ByteArray.append_assoc]
theorem app_empty (s : ByteArray) : s ++ (⟨#[]⟩ : ByteArray) = s := by apply ByteArray.ext;simp
theorem decS_zero : decS 0 = (⟨#[48]⟩ : ByteArray) := by rw [decS_small (by omega)];rfl
theorem l1Size_ev (n : Int) (h : okI n) : Ev (fun k => qqk.f k n) (decS n.natAbs) := by
 have h1 := h.1
 have h2 := h.2
 refine ⟨30,fun k hk => ?_⟩
 show qqk.f k n = _
 unfold qqk.f
 by_cases hz : n = 0
 ·subst hz;rw [if_pos rfl];exact congrArg some decS_zero.symm
 rw [if_neg hz]
 have hp : n.natAbs < 10 ^ (18 + 1) := by omega
 rcases Int.lt_or_le n 0 with hn | hn
 ·have e : n = -((n.natAbs : Nat) : Int) := by omega
  conv => lhs;rw [e]
  rw [sizeA_neg 18 n.natAbs (by omega) (by omega) hp k _ (by omega) (by show 0 + 18 ≤ _;omega),app_empty]
 ·have e : n = ((n.natAbs : Nat) : Int) := by omega
  conv => lhs;rw [e]
  rw [sizeA_pos 18 n.natAbs (by omega) (by omega) hp k _ (by omega) (by show 0 + 18 ≤ _;omega),app_empty]
theorem decS_le (u : Nat) (h : u ≤ 9223372036854775808) : (decS u).size ≤ 19 := decS_len u 18 (by omega)
theorem l1Num_all (n : Int) (h : okI n) : Ev (fun k => xx.f k n) (numS n) := by
 have h1 := h.1
 have h2 := h.2
 simp only [xx.f]
 have hle := decS_le n.natAbs (by omega)
 rcases Int.lt_or_le n 0 with hn | hn
 ·simp only [if_pos hn]
  refine Ev.bind (l1Size_ev n h) ?_
  simp only [if_pos (show 1 + (decS n.natAbs).size ≤ 9223372036854775807 by omega)]
  have e : numS n = (⟨#[45]⟩ : ByteArray) ++ decS n.natAbs := by
   conv => lhs;rw [show n = -((n.natAbs : Nat) : Int) by omega]
   exact numS_neg _ (by omega)
  rw [e]
  exact Ev.now _
 ·simp only [if_neg (show ¬ n < 0 by omega)]
  refine Ev.bind (l1Size_ev n h) ?_
  have e : numS n = decS n.natAbs := by
   conv => lhs;rw [show n = ((n.natAbs : Nat) : Int) by omega]
   exact numS_nat _
  rw [e]
  exact Ev.now _
theorem numS_le (n : Int) (h : okI n) : (numS n).size ≤ 20 := by
 have h1 := h.1
 have h2 := h.2
 have hle := decS_le n.natAbs (by omega)
 rcases Int.lt_or_le n 0 with hn | hn
 ·rw [show numS n = (⟨#[45]⟩ : ByteArray) ++ decS n.natAbs by
   conv => lhs;rw [show n = -((n.natAbs : Nat) : Int) by omega]
   exact numS_neg _ (by omega),ByteArray.size_append,show (⟨#[45]⟩ : ByteArray).size = 1 from rfl]
  omega
 ·rw [show numS n = decS n.natAbs by
   conv => lhs;rw [show n = ((n.natAbs : Nat) : Int) by omega]
   exact numS_nat _]
  omega
def dig4 (r : Nat) : ByteArray := ((digS (r / 1000 % 10) ++ digS (r / 100 % 10)) ++ digS (r / 10 % 10)) ++ digS (r % 10)
theorem dig4_size (r : Nat) : (dig4 r).size = 4 := rfl
theorem decS_four {u : Nat} (h : ¬ u < 10000) : decS u = decS (u / 10000) ++ dig4 (u % 10000) := by
 rw [decS_big (show ¬ u < 10 by omega),decS_big (show ¬ u / 10 < 10 by omega),decS_big (show ¬ u / 10 / 10 < 10 by omega),decS_big (show ¬ u / 10 / 10 / 10 < 10 by omega)]
 unfold dig4
 rw [show u / 10 / 10 / 10 / 10 = u / 10000 by omega,show u / 10 / 10 / 10 % 10 = u % 10000 / 1000 % 10 by omega,show u / 10 / 10 % 10 = u % 10000 / 100 % 10 by omega,show u / 10 % 10 = u % 10000 / 10 % 10 by omega,show u % 10 = u % 10000 % 10 by omega]
 simp only [ByteArray.append_assoc]
def zeroS : ByteArray := ⟨#[48]⟩
theorem digS_zero : digS 0 = zeroS := rfl
theorem fill_one {u : Nat} (h : u < 10) : zeroS ++ (zeroS ++ (zeroS ++ (zeroS ++ decS u))) = zeroS ++ dig4 u := by
 rw [decS_small h]
 unfold dig4
 rw [show u / 1000 % 10 = 0 by omega,show u / 100 % 10 = 0 by omega,show u / 10 % 10 = 0 by omega,show u % 10 = u by omega,digS_zero]
 simp only [ByteArray.append_assoc]
theorem fill_two {u : Nat} (h0 : ¬ u < 10) (h : u < 100) : zeroS ++ (zeroS ++ (zeroS ++ decS u)) = zeroS ++ dig4 u := by
 rw [decS_big h0,decS_small (show u / 10 < 10 by omega)]
 unfold dig4
 rw [show u / 1000 % 10 = 0 by omega,show u / 100 % 10 = 0 by omega,show u / 10 % 10 = u / 10 by omega,digS_zero]
 simp only [ByteArray.append_assoc]
theorem fill_three {u : Nat} (h0 : ¬ u < 100) (h : u < 1000) : zeroS ++ (zeroS ++ decS u) = zeroS ++ dig4 u := by
 rw [decS_big (show ¬ u < 10 by omega),decS_big (show ¬ u / 10 < 10 by omega),decS_small (show u / 10 / 10 < 10 by omega)]
 unfold dig4
 rw [show u / 1000 % 10 = 0 by omega,show u / 10 / 10 = u / 100 % 10 by omega,digS_zero]
 simp only [ByteArray.append_assoc]
theorem fill_four {u : Nat} (h0 : ¬ u < 1000) (h : u < 10000) : zeroS ++ decS u = zeroS ++ dig4 u := by
 rw [decS_big (show ¬ u < 10 by omega),decS_big (show ¬ u / 10 < 10 by omega),decS_big (show ¬ u / 10 / 10 < 10 by omega),decS_small (show u / 10 / 10 / 10 < 10 by omega)]
 unfold dig4
 rw [show u / 10 / 10 / 10 = u / 1000 % 10 by omega,show u / 10 / 10 % 10 = u / 100 % 10 by omega]
def filled (u : Nat) : ByteArray := decS (u / 10000) ++ dig4 (u % 10000)
theorem size_one {u : Nat} (h : u < 10) : (decS u).size = 1 := by rw [decS_small h];rfl
theorem size_two {u : Nat} (h0 : ¬ u < 10) (h : u < 100) : (decS u).size = 2 := by rw [decS_big h0,decS_small (show u / 10 < 10 by omega)];rfl
theorem size_three {u : Nat} (h0 : ¬ u < 100) (h : u < 1000) : (decS u).size = 3 := by rw [decS_big (show ¬ u < 10 by omega),ByteArray.size_append,size_two (by omega) (by omega),digS_size]
theorem size_four {u : Nat} (h0 : ¬ u < 1000) (h : u < 10000) : (decS u).size = 4 := by rw [decS_big (show ¬ u < 10 by omega),ByteArray.size_append,size_three (by omega) (by omega),digS_size]
theorem filled_size (u : Nat) : (filled u).size = (decS (u / 10000)).size + 4 := by unfold filled;rw [ByteArray.size_append,dig4_size]
theorem decS_pos (u : Nat) : 1 ≤ (decS u).size := by
 by_cases h : u < 10
 ·rw [size_one h];exact Nat.le_refl _
 ·rw [decS_big h,ByteArray.size_append,digS_size];omega
theorem filled_small {u : Nat} (h : u < 10000) : filled u = zeroS ++ dig4 u := by
 unfold filled
 rw [show u / 10000 = 0 by omega,Nat.mod_eq_of_lt h,decS_zero]
 rfl
theorem extract_left (a b : ByteArray) : (a ++ b).extract 0 a.size = a := by
 apply ByteArray.ext
 simp [ByteArray.data_extract,ByteArray.data_append,Array.extract_append]
theorem extract_right (a b : ByteArray) : (a ++ b).extract a.size (a ++ b).size = b := by
 apply ByteArray.ext
 have e : a.data.size = a.size := rfl
 have e2 : b.data.size = b.size := rfl
 simp only [ByteArray.data_extract,ByteArray.data_append,Array.extract_append,ByteArray.size_append,← e,← e2,Nat.sub_self,Nat.add_sub_cancel_left,Array.extract_size]
 rw [Array.extract_empty_of_size_le_start (Nat.le_refl _)]
 simp
def decB (n : Int) : ByteArray := ((if n < 0 then (⟨#[45]⟩ : ByteArray) else ⟨#[]⟩) ++ decS (n.natAbs / 10000)) ++ ((⟨#[46]⟩ : ByteArray) ++ dig4 (n.natAbs % 10000))
theorem low_cut (r : Nat) (h : r < 10000) : (decS (r + 10000)).extract 1 (decS (r + 10000)).size = dig4 r := by
 rw [decS_four (show ¬ r + 10000 < 10000 by omega),show (r + 10000) / 10000 = 1 by omega,show (r + 10000) % 10000 = r by omega]
 have e : (decS 1).size = 1 := size_one (by omega)
 have := extract_right (decS 1) (dig4 r)
 rw [e] at this
 exact this
theorem fuint_eq (u : Nat) (h : u < 18446744073709551616) : qzz.f (u : Int) 10 = some (decS u) := by
 unfold qzz.f
 rw [if_pos ⟨rfl,by omega,by omega⟩,Int.toNat_natCast]
 rfl
theorem Ev.ifP {α : Type} {c : Prop} [Decidable c] {f g : Nat → Option α} {r : α} (h : c) (he : Ev f r) : Ev (fun n => if c then f n else g n) r := by
 simp only [if_pos h];exact he
theorem shr_natT (e n : Nat) (hn : n ≤ 64) : shr .i64 (e : Int) (n : Int) = ((e / 2 ^ n : Nat) : Int) := by
 unfold shr
 rw [Int.toNat_natCast,Nat.min_eq_left (show n ≤ IntKind.i64.bits from hn)]
 simp
theorem smallT : ∀ x : Int,0 ≤ x → x < 2 ^ 40 → IntKind.i64.wrap x = x := fun x h0 h1 => IntWalk.i64_in _ (by omega)
theorem and255_i (e n : Nat) (he : e < 4294967296) (hn : n ≤ 64) : Go.bits .and .i64 (shr .i64 (e : Int) (n : Int)) 255 = ((e / 2 ^ n % 256 : Nat) : Int) := by
 have hle : e / 2 ^ n ≤ e := Nat.div_le_self _ _
 obtain ⟨q,eq⟩ : ∃ q,q = e / 2 ^ n := ⟨_,rfl⟩
 rw [shr_natT e n hn,← eq]
 rw [← eq] at hle
 rw [show (255 : Int) = 2 ^ 8 - 1 by decide,Go.bits_mask .i64 40 (by decide) smallT 8 (by decide) _ (by omega) (by omega)]
 omega
def blockB (e m : Nat) : ByteArray := (((((((decS (e / 16777216) ++ (⟨#[46]⟩ : ByteArray)) ++ decS (e / 65536 % 256)) ++ (⟨#[46]⟩ : ByteArray)) ++ decS (e / 256 % 256)) ++ (⟨#[46]⟩ : ByteArray)) ++ decS (e % 256)) ++ (⟨#[47]⟩ : ByteArray)) ++ decS m
def textB (k n : Int) (t ty : ByteArray) : ByteArray :=
 if k = 1 then (if n = 1 then (⟨#[116,114,117,101]⟩ : ByteArray) else (⟨#[102,97,108,115,101]⟩ : ByteArray))
 else if k = 2 then numS n
 else if k = 3 then quoteB t
 else if k = 4 then (ty ++ (⟨#[58,58]⟩ : ByteArray)) ++ quoteB t
 else if k = 5 then decB n
 else if k = 6 then blockB (n / 64).toNat (n % 64).toNat
 else (⟨#[64]⟩ : ByteArray) ++ numS n
theorem dec3 (u : Nat) (h : u < 1000) : (decS u).size ≤ 3 := decS_len u 2 (by omega)
theorem dec10 (u : Nat) (h : u < 10000000000) : (decS u).size ≤ 10 := decS_len u 9 (by omega)
theorem addr_round (e j : Nat) (he : e < 4294967296) (hj : j ≤ 24) (s : ByteArray) (hs : s.size ≤ 1000) (k : Nat) (a b : Int) (t ty : ByteArray) :
  kk.l0 (k + 1) (e : Int) s (j : Int) a b t ty = kk.l0 k (e : Int) (s ++ (decS (e / 2 ^ j % 256) ++ (⟨#[46]⟩ : ByteArray))) ((j : Int) - 8) a b t ty := by
 have h3 := dec3 (e / 2 ^ j % 256) (by omega)
 rw [kk.l0,if_pos (show (j : Int) ≥ 0 by omega),if_pos (show 0 ≤ (j : Int) by omega),and255_i e j he (by omega),itoa_eq _ (by omega),Option.bind_some,if_pos (by omega),if_pos (by rw [ByteArray.size_append,show (⟨#[46]⟩ : ByteArray).size = 1 from rfl];omega),w64 (by omega) (by omega)]
theorem addr_end (e m : Nat) (hm : m < 64) (s : ByteArray) (hs : s.size ≤ 1000) (k : Nat) (a b : Int) (hb : Int.tmod b 64 = (m : Int)) (t ty : ByteArray) :
  kk.l0 (k + 1) (e : Int) (s ++ (⟨#[46]⟩ : ByteArray)) (-8) a b t ty = some ((s ++ (⟨#[47]⟩ : ByteArray)) ++ decS m) := by
 have h3 := dec3 m (by omega)
 have hsz : (s ++ (⟨#[46]⟩ : ByteArray)).size = s.size + 1 := by rw [ByteArray.size_append];rfl
 have ew : wrap64 (((s ++ (⟨#[46]⟩ : ByteArray)).size : Int) - 1) = ((s.size : Nat) : Int) := by rw [hsz,w64 (by omega) (by omega)];omega
 have ex := extract_left s (⟨#[46]⟩ : ByteArray)
 rw [kk.l0,if_neg (by decide),ew,if_pos (by omega),if_pos (by omega),Int.toNat_natCast,ex,if_pos (by omega),hb,itoa_eq _ (by omega),Option.bind_some,if_pos (by rw [ByteArray.size_append,show (⟨#[47]⟩ : ByteArray).size = 1 from rfl];omega)]
theorem addr_text (e m : Nat) (he : e < 4294967296) (hm : m < 64) (a b : Int) (hb : Int.tmod b 64 = (m : Int)) (t ty : ByteArray) : ∀ k,5 < k → kk.l0 k (e : Int) (⟨#[]⟩ : ByteArray) 24 a b t ty = some (blockB e m) := by
 intro k hk
 obtain ⟨k,rfl⟩ : ∃ q,k = q + 1 + 1 + 1 + 1 + 1 := ⟨k - 5,by omega⟩
 have d1 := dec3 (e / 2 ^ 24 % 256) (by omega)
 have d2 := dec3 (e / 2 ^ 16 % 256) (by omega)
 have d3 := dec3 (e / 2 ^ 8 % 256) (by omega)
 have d4 := dec3 (e / 2 ^ 0 % 256) (by omega)
 have one : (⟨#[46]⟩ : ByteArray).size = 1 := rfl
 have zero : (⟨#[]⟩ : ByteArray).size = 0 := rfl
 have r1 := addr_round e 24 he (by omega) (⟨#[]⟩ : ByteArray) (by omega) (k + 1 + 1 + 1 + 1) a b t ty
 rw [show ((24 : Nat) : Int) = 24 from rfl] at r1
 rw [r1]
 have r2 := addr_round e 16 he (by omega) ((⟨#[]⟩ : ByteArray) ++ (decS (e / 2 ^ 24 % 256) ++ (⟨#[46]⟩ : ByteArray))) (by simp only [ByteArray.size_append];omega) (k + 1 + 1 + 1) a b t ty
 rw [show ((16 : Nat) : Int) = 24 - 8 from rfl] at r2
 rw [r2]
 have r3 := addr_round e 8 he (by omega) (((⟨#[]⟩ : ByteArray) ++ (decS (e / 2 ^ 24 % 256) ++ (⟨#[46]⟩ : ByteArray))) ++ (decS (e / 2 ^ 16 % 256) ++ (⟨#[46]⟩ : ByteArray))) (by simp only [ByteArray.size_append];omega) (k + 1 + 1) a b t ty
 rw [show ((8 : Nat) : Int) = 24 - 8 - 8 from rfl] at r3
 rw [r3]
 have r4 := addr_round e 0 he (by omega) ((((⟨#[]⟩ : ByteArray) ++ (decS (e / 2 ^ 24 % 256) ++ (⟨#[46]⟩ : ByteArray))) ++ (decS (e / 2 ^ 16 % 256) ++ (⟨#[46]⟩ : ByteArray))) ++ (decS (e / 2 ^ 8 % 256) ++ (⟨#[46]⟩ : ByteArray))) (by simp only [ByteArray.size_append];omega) (k + 1) a b t ty
 rw [show ((0 : Nat) : Int) = 24 - 8 - 8 - 8 from rfl] at r4
 rw [r4]
 have r5 := addr_end e m hm (((((⟨#[]⟩ : ByteArray) ++ (decS (e / 2 ^ 24 % 256) ++ (⟨#[46]⟩ : ByteArray))) ++ (decS (e / 2 ^ 16 % 256) ++ (⟨#[46]⟩ : ByteArray))) ++ (decS (e / 2 ^ 8 % 256) ++ (⟨#[46]⟩ : ByteArray))) ++ decS (e / 2 ^ 0 % 256)) (by simp only [ByteArray.size_append];omega) k a b hb t ty
 rw [show (-8 : Int) = 24 - 8 - 8 - 8 - 8 from rfl,ByteArray.append_assoc] at r5
 rw [r5]
 congr 1
 unfold blockB
 rw [show e / 2 ^ 24 % 256 = e / 16777216 by omega,show e / 2 ^ 16 % 256 = e / 65536 % 256 by omega,show e / 2 ^ 8 % 256 = e / 256 % 256 by omega,show e / 2 ^ 0 % 256 = e % 256 by omega]
 rw [show (⟨#[]⟩ : ByteArray) ++ (decS (e / 16777216) ++ (⟨#[46]⟩ : ByteArray)) = decS (e / 16777216) ++ (⟨#[46]⟩ : ByteArray) by apply ByteArray.ext;simp]
 simp only [ByteArray.append_assoc]
theorem fill_step (x : ByteArray) (hx : x.size < 5) (k : Nat) (a n : Int) (t ty : ByteArray) : qqv.l0 (k + 1) x a n t ty = qqv.l0 k (zeroS ++ x) a n t ty := by
 rw [qqv.l0,if_pos (by omega),if_pos (by omega)]
 rfl
theorem fill_end (n : Int) (hn : okI n) (k : Nat) (a : Int) (t ty : ByteArray) : qqv.l0 (k + 1) (filled n.natAbs) a n t ty = some (decB n) := by
 have h1 := hn.1
 have h2 := hn.2
 have hp := decS_pos (n.natAbs / 10000)
 have hl := decS_le (n.natAbs / 10000) (by omega)
 have hsz := filled_size n.natAbs
 have ew : wrap64 (((filled n.natAbs).size : Int) - 4) = (((decS (n.natAbs / 10000)).size : Nat) : Int) := by rw [hsz,w64 (by omega) (by omega)];omega
 have x1 : (filled n.natAbs).extract 0 (decS (n.natAbs / 10000)).size = decS (n.natAbs / 10000) := extract_left _ _
 have x2 : (filled n.natAbs).extract (decS (n.natAbs / 10000)).size (filled n.natAbs).size = dig4 (n.natAbs % 10000) := extract_right _ _
 have one : (⟨#[46]⟩ : ByteArray).size = 1 := rfl
 rw [qqv.l0,if_neg (by omega),ew,if_pos (by omega),if_pos (by omega),Int.toNat_natCast,x1,x2,if_pos (by omega),if_pos (by rw [ByteArray.size_append,dig4_size,one];omega)]
 unfold decB
 by_cases hneg : n < 0
 ·rw [if_pos hneg,if_pos hneg,if_pos (by simp only [ByteArray.size_append,dig4_size,one];omega)]
  simp only [ByteArray.append_assoc]
 ·rw [if_neg hneg,if_neg hneg]
  congr 1
  rw [show (⟨#[]⟩ : ByteArray) ++ decS (n.natAbs / 10000) = decS (n.natAbs / 10000) by apply ByteArray.ext;simp]
  simp only [ByteArray.append_assoc]
theorem fill_text (n : Int) (hn : okI n) (a : Int) (t ty : ByteArray) : ∀ k,6 < k → qqv.l0 k (decS n.natAbs) a n t ty = some (decB n) := by
 intro k hk
 obtain ⟨k,rfl⟩ : ∃ q,k = q + 1 + 1 + 1 + 1 + 1 := ⟨k - 5,by omega⟩
 have fe := fun q => fill_end n hn q a t ty
 obtain ⟨u,eu⟩ : ∃ u,u = n.natAbs := ⟨_,rfl⟩
 rw [← eu] at fe ⊢
 have z1 : zeroS.size = 1 := rfl
 by_cases c1 : u < 10
 ·have e := fill_one c1
  rw [← filled_small (by omega)] at e
  have hs := size_one c1
  rw [fill_step _ (by omega),fill_step _ (by simp only [ByteArray.size_append];omega),fill_step _ (by simp only [ByteArray.size_append];omega),fill_step _ (by simp only [ByteArray.size_append];omega),e]
  exact fe _
 by_cases c2 : u < 100
 ·have e := fill_two c1 c2
  rw [← filled_small (by omega)] at e
  have hs := size_two c1 c2
  rw [fill_step _ (by omega),fill_step _ (by simp only [ByteArray.size_append];omega),fill_step _ (by simp only [ByteArray.size_append];omega),e]
  exact fe _
 by_cases c3 : u < 1000
 ·have e := fill_three c2 c3
  rw [← filled_small (by omega)] at e
  have hs := size_three c2 c3
  rw [fill_step _ (by omega),fill_step _ (by simp only [ByteArray.size_append];omega),e]
  exact fe _
 by_cases c4 : u < 10000
 ·have e := fill_four c3 c4
  rw [← filled_small (by omega)] at e
  have hs := size_four c3 c4
  rw [fill_step _ (by omega),e]
  exact fe _
 rw [show decS u = filled u from decS_four c4]
 exact fe _
theorem u64_nonneg (n : Int) (h0 : 0 ≤ n) (h1 : n ≤ 9223372036854775807) : IntKind.u64.wrap n = n := by rw [IntKind.wrap_u64];omega
theorem u64_negneg (n : Int) (h0 : n < 0) (h1 : -9223372036854775808 ≤ n) : IntKind.u64.wrap (-(IntKind.u64.wrap n)) = ((n.natAbs : Nat) : Int) := by rw [IntKind.wrap_u64,IntKind.wrap_u64];omega
theorem dec_parts (u : Nat) (hu : u ≤ 9223372036854775808) : qzz.f (IntKind.u64.wrap ((Int.tmod (u : Int) 10000) + 10000)) 10 = some (decS (u % 10000 + 10000)) ∧ qzz.f (IntKind.u64.wrap (Int.tdiv (u : Int) 10000)) 10 = some (decS (u / 10000)) := by
 rw [Int.tmod_eq_emod_of_nonneg (by omega),Int.tdiv_eq_ediv_of_nonneg (by omega)]
 rw [show IntKind.u64.wrap ((u : Int) % 10000 + 10000) = ((u % 10000 + 10000 : Nat) : Int) by rw [IntKind.wrap_u64];omega,show IntKind.u64.wrap ((u : Int) / 10000) = ((u / 10000 : Nat) : Int) by rw [IntKind.wrap_u64];omega]
 exact ⟨fuint_eq _ (by omega),fuint_eq _ (by omega)⟩
theorem good_six {n : Int} {t ty : ByteArray} (h : goodAtom 6 n t ty = true) : blkOk n := by
 simp only [goodAtom,noTexts,if_neg (show ¬ (6 : Int) = 1 by omega),if_neg (show ¬ ((6 : Int) = 2 ∨ (6 : Int) = 5) by omega),if_neg (show ¬ (6 : Int) = 3 by omega),if_neg (show ¬ (6 : Int) = 4 by omega),if_true,Bool.and_eq_true,decide_eq_true_eq] at h
 exact h.2
theorem good_text {k n : Int} {t ty : ByteArray} (h : goodAtom k n t ty = true) (hk : k = 3 ∨ k = 4) : t.size ≤ 200 ∧ ty.size ≤ 30 := by
 rcases hk with rfl | rfl
 ·simp only [goodAtom,if_neg (show ¬ (3 : Int) = 1 by omega),if_neg (show ¬ ((3 : Int) = 2 ∨ (3 : Int) = 5) by omega),if_true,Bool.and_eq_true,decide_eq_true_eq] at h
  exact ⟨h.2.1,by rw [h.1.2];omega⟩
 ·simp only [goodAtom,if_neg (show ¬ (4 : Int) = 1 by omega),if_neg (show ¬ ((4 : Int) = 2 ∨ (4 : Int) = 5) by omega),if_neg (show ¬ (4 : Int) = 3 by omega),if_true,Bool.and_eq_true,decide_eq_true_eq] at h
  exact ⟨h.2.2.1.2,(name_size h.2.1).2⟩
theorem blk_parts {n : Int} (h : blkOk n) (hi : n ≤ 9223372036854775807) : ∃ e m : Nat,(n / 64).toNat = e ∧ (n % 64).toNat = m ∧ e < 4294967296 ∧ m < 64 ∧ wrap64 (Int.tdiv n 64) = (e : Int) ∧ Int.tmod n 64 = (m : Int) := by
 have h0 := h.1
 have h2 := h.2.2.1
 refine ⟨(n / 64).toNat,(n % 64).toNat,rfl,rfl,by omega,by omega,?_,?_⟩
 ·rw [Int.tdiv_eq_ediv_of_nonneg h0,w64 (by omega) (by omega)];omega
 ·rw [Int.tmod_eq_emod_of_nonneg h0];omega
theorem implText_ev (k n : Int) (t ty : ByteArray) (ht : t.size ≤ 9223372036854775807) (hty : ty.size ≤ 9223372036854775807) (hn : okI n) :
  Ev (fun f => kk.f f k n t ty) (if goodAtom k n t ty = true then textB k n t ty else ⟨#[]⟩) := by
 simp only [kk.f]
 refine Ev.bind (implGoodAtom_ev k n t ty ht hty (fun _ => hn)) ?_
 by_cases hg : goodAtom k n t ty = true
 case neg => simp only [if_neg hg];exact Ev.now _
 simp only [if_pos hg]
 have hnum := numS_le n hn
 have h1 := hn.1
 have h2 := hn.2
 unfold textB
 by_cases k1 : k = 1
 ·simp only [if_pos k1,qqx.f,qzq.f]
  by_cases hz : n = 1
  ·subst hz;exact Ev.now _
  ·rw [show (n == 1) = false from beq_eq_false_iff_ne.2 hz]
   simp only [if_neg hz,Bool.false_eq_true,if_false,Option.bind_some]
   exact Ev.now _
 simp only [if_neg k1]
 by_cases k2 : k = 2
 ·simp only [if_pos k2,itoa_all n hn,Option.bind_some];exact Ev.now _
 simp only [if_neg k2]
 by_cases k3 : k = 3
 ·have hs := (good_text hg (.inl k3)).1
  simp only [if_pos k3,yquote_eq t (by omega),Option.bind_some];exact Ev.now _
 simp only [if_neg k3]
 by_cases k4 : k = 4
 ·have hs := good_text hg (.inr k4)
  have hq := quoteB_le t
  simp only [if_pos k4,if_pos (show ty.size + 2 ≤ 9223372036854775807 by omega),yquote_eq t (by omega),Option.bind_some,if_pos (show (ty ++ (⟨#[58,58]⟩ : ByteArray)).size + (quoteB t).size ≤ 9223372036854775807 by rw [ByteArray.size_append,show (⟨#[58,58]⟩ : ByteArray).size = 2 from rfl];omega)]
  exact Ev.now _
 simp only [if_neg k4]
 by_cases k5 : k = 5
 ·simp only [if_pos k5]
  have hp := decS_pos (n.natAbs / 10000)
  have hl := decS_le (n.natAbs / 10000) (by omega)
  have hlow := low_cut (n.natAbs % 10000) (by omega)
  have hpos := decS_pos (n.natAbs % 10000 + 10000)
  have z0 : (⟨#[]⟩ : ByteArray).size = 0 := rfl
  have z1 : (⟨#[45]⟩ : ByteArray).size = 1 := rfl
  have z2 : (⟨#[46]⟩ : ByteArray).size = 1 := rfl
  have d4 := dig4_size (n.natAbs % 10000)
  obtain ⟨p1,p2⟩ := dec_parts n.natAbs (by omega)
  by_cases hneg : n < 0
  ·simp only [if_pos hneg,u64_negneg n hneg h1,p1,p2,Option.bind_some,hlow]
   simp only [if_pos (show 1 + (decS (n.natAbs / 10000)).size ≤ 9223372036854775807 by omega),if_pos (show ((⟨#[45]⟩ : ByteArray) ++ decS (n.natAbs / 10000)).size + 1 ≤ 9223372036854775807 by rw [ByteArray.size_append];omega),if_pos (show 1 ≤ ((decS (n.natAbs % 10000 + 10000)).size : Int) by omega),if_pos (show (((⟨#[45]⟩ : ByteArray) ++ decS (n.natAbs / 10000)) ++ (⟨#[46]⟩ : ByteArray)).size + (dig4 (n.natAbs % 10000)).size ≤ 9223372036854775807 by simp only [ByteArray.size_append];omega)]
   have e : ((((⟨#[45]⟩ : ByteArray) ++ decS (n.natAbs / 10000)) ++ (⟨#[46]⟩ : ByteArray)) ++ dig4 (n.natAbs % 10000)) = decB n := by unfold decB;rw [if_pos hneg];simp only [ByteArray.append_assoc]
   rw [e]
   exact Ev.now _
  ·have en : n = ((n.natAbs : Nat) : Int) := by omega
   have eu : IntKind.u64.wrap n = ((n.natAbs : Nat) : Int) := by rw [u64_nonneg n (by omega) h2];exact en
   simp only [if_neg hneg,eu,p1,p2,Option.bind_some,hlow]
   simp only [if_pos (show 0 + (decS (n.natAbs / 10000)).size ≤ 9223372036854775807 by omega),if_pos (show ((⟨#[]⟩ : ByteArray) ++ decS (n.natAbs / 10000)).size + 1 ≤ 9223372036854775807 by rw [ByteArray.size_append];omega),if_pos (show 1 ≤ ((decS (n.natAbs % 10000 + 10000)).size : Int) by omega),if_pos (show (((⟨#[]⟩ : ByteArray) ++ decS (n.natAbs / 10000)) ++ (⟨#[46]⟩ : ByteArray)).size + (dig4 (n.natAbs % 10000)).size ≤ 9223372036854775807 by simp only [ByteArray.size_append];omega)]
   have e : ((((⟨#[]⟩ : ByteArray) ++ decS (n.natAbs / 10000)) ++ (⟨#[46]⟩ : ByteArray)) ++ dig4 (n.natAbs % 10000)) = decB n := by unfold decB;rw [if_neg hneg];simp only [ByteArray.append_assoc]
   rw [e]
   exact Ev.now _
 simp only [if_neg k5]
 by_cases k6 : k = 6
 ·subst k6
  obtain ⟨e,m,e1,e2,he,hm,e3,e4⟩ := blk_parts (good_six hg) h2
  simp only [if_true,e1,e2,e3]
  exact ⟨6,fun f hf => addr_text e m he hm _ n e4 t ty f (by omega)⟩
 simp only [if_neg k6,itoa_all n hn,Option.bind_some,if_pos (show 1 + (numS n).size ≤ 9223372036854775807 by omega)]
 exact Ev.now _
theorem specText_ev (k n : Int) (t ty : ByteArray) (hn : okI n) (hg : goodAtom k n t ty = true) : Ev (fun f => qqv.f f k n t ty) (textB k n t ty) := by
 simp only [qqv.f]
 have hnum := numS_le n hn
 have h1 := hn.1
 have h2 := hn.2
 unfold textB
 by_cases k1 : k = 1
 ·simp only [if_pos k1]
  by_cases hz : n = 1
  ·simp only [if_pos hz];exact Ev.now _
  ·simp only [if_neg hz];exact Ev.now _
 simp only [if_neg k1]
 by_cases k2 : k = 2
 ·simp only [if_pos k2]
  exact Ev.bind (l1Num_all n hn) (Ev.now _)
 simp only [if_neg k2]
 by_cases k3 : k = 3
 ·have hs := (good_text hg (.inl k3)).1
  simp only [if_pos k3]
  exact Ev.bind (l1Quoted_ev t (by omega)) (Ev.now _)
 simp only [if_neg k3]
 by_cases k4 : k = 4
 ·have hs := good_text hg (.inr k4)
  have hq := quoteB_le t
  simp only [if_pos k4,if_pos (show ty.size + 2 ≤ 9223372036854775807 by omega)]
  refine Ev.bind (l1Quoted_ev t (by omega)) ?_
  simp only [if_pos (show (ty ++ (⟨#[58,58]⟩ : ByteArray)).size + (quoteB t).size ≤ 9223372036854775807 by rw [ByteArray.size_append,show (⟨#[58,58]⟩ : ByteArray).size = 2 from rfl];omega)]
  exact Ev.now _
 simp only [if_neg k4]
 by_cases k5 : k = 5
 ·simp only [if_pos k5]
  refine Ev.bind (l1Size_ev n hn) ?_
  exact ⟨7,fun f hf => fill_text n hn _ t ty f (by omega)⟩
 simp only [if_neg k5]
 by_cases k6 : k = 6
 ·subst k6
  have hb := good_six hg
  have hb1 := hb.2.1
  obtain ⟨e,m,e1,e2,he,hm,e3,e4⟩ := blk_parts hb h2
  have ew : wrap64 (32 - (m : Int)) = ((32 - m : Nat) : Int) := by rw [w64 (by omega) (by omega)];omega
  have eb : Ev (fun f => xk.f f 6 n t ty) ((e : Int),2 ^ (32 - m)) := by
   simp only [xk.f,e3,e4,ew]
   exact Ev.bind ⟨40,fun k hk => pow2_eq _ (by omega) k (by omega)⟩ (Ev.now _)
  simp only [if_true,e1,e2]
  refine Ev.bind eb ?_
  have q1 : wrap64 (Int.tdiv (e : Int) 16777216) = ((e / 16777216 : Nat) : Int) := by rw [Int.tdiv_eq_ediv_of_nonneg (by omega),w64 (by omega) (by omega)];omega
  have q2 : Int.tmod (wrap64 (Int.tdiv (e : Int) 65536)) 256 = ((e / 65536 % 256 : Nat) : Int) := by rw [Int.tdiv_eq_ediv_of_nonneg (by omega),w64 (by omega) (by omega),Int.tmod_eq_emod_of_nonneg (by omega)];omega
  have q3 : Int.tmod (wrap64 (Int.tdiv (e : Int) 256)) 256 = ((e / 256 % 256 : Nat) : Int) := by rw [Int.tdiv_eq_ediv_of_nonneg (by omega),w64 (by omega) (by omega),Int.tmod_eq_emod_of_nonneg (by omega)];omega
  have q4 : Int.tmod (e : Int) 256 = ((e % 256 : Nat) : Int) := by rw [Int.tmod_eq_emod_of_nonneg (by omega)];omega
  have d1 := dec10 (e / 16777216) (by omega)
  have d2 := dec3 (e / 65536 % 256) (by omega)
  have d3 := dec3 (e / 256 % 256) (by omega)
  have d4 := dec3 (e % 256) (by omega)
  have d5 := dec3 m (by omega)
  have z2 : (⟨#[46]⟩ : ByteArray).size = 1 := rfl
  have z3 : (⟨#[47]⟩ : ByteArray).size = 1 := rfl
  simp only [q1,q2,q3,q4,e4]
  refine Ev.bind (l1Num_ev _ (by omega)) ?_
  simp only [if_pos (show (decS (e / 16777216)).size + 1 ≤ 9223372036854775807 by omega)]
  refine Ev.bind (l1Num_ev _ (by omega)) ?_
  refine Ev.ifP (by simp only [ByteArray.size_append];omega) ?_
  refine Ev.ifP (by simp only [ByteArray.size_append];omega) ?_
  refine Ev.bind (l1Num_ev _ (by omega)) ?_
  refine Ev.ifP (by simp only [ByteArray.size_append];omega) ?_
  refine Ev.ifP (by simp only [ByteArray.size_append];omega) ?_
  refine Ev.bind (l1Num_ev _ (by omega)) ?_
  refine Ev.ifP (by simp only [ByteArray.size_append];omega) ?_
  refine Ev.ifP (by simp only [ByteArray.size_append];omega) ?_
  refine Ev.bind (l1Num_ev _ (by omega)) ?_
  refine Ev.ifP (by simp only [ByteArray.size_append];omega) ?_
  exact Ev.now _
 simp only [if_neg k6]
 refine Ev.bind (l1Num_all n hn) ?_
 simp only [if_pos (show 1 + (numS n).size ≤ 9223372036854775807 by omega)]
 exact Ev.now _
def opOk (n k : Int) : Bool := (decide (n = 1 ∨ n = 2 ∨ n = 3) && decide (k = 2 ∨ k = 3 ∨ k = 5 ∨ k = 7)) || (decide (n = 4) && decide (k = 6))
def goodTerm (l : ByteArray) (n : Int) (p : ByteArray) (k m : Int) (t ty : ByteArray) : Bool := goodName l && (decide (p.size = 0) && (goodAtom k m t ty && opOk n k))
theorem op_low {n k : Int} (h : n = 1 ∨ n = 2 ∨ n = 3) : opOk n k = decide (k = 2 ∨ k = 3 ∨ k = 5 ∨ k = 7) := by
 unfold opOk
 rw [decide_eq_true h,decide_eq_false (show ¬ n = 4 by omega),Bool.true_and,Bool.false_and,Bool.or_false]
theorem op_four {n k : Int} (h : n = 4) : opOk n k = (k == 6) := by
 unfold opOk
 rw [decide_eq_false (show ¬ (n = 1 ∨ n = 2 ∨ n = 3) by omega),decide_eq_true h,Bool.true_and,Bool.false_and,Bool.false_or]
 rw [Bool.eq_iff_iff,decide_eq_true_eq,beq_iff_eq]
theorem op_none {n k : Int} (h1 : ¬ n = 1) (h2 : ¬ n = 2) (h3 : ¬ n = 3) (h4 : ¬ n = 4) : opOk n k = false := by
 unfold opOk
 rw [decide_eq_false (show ¬ (n = 1 ∨ n = 2 ∨ n = 3) by omega),decide_eq_false h4]
 rfl
theorem four (k : Int) : (decide (k = 2 ∨ k = 3 ∨ k = 5 ∨ k = 7)) = (if k = 2 then true else if k = 3 then true else if k = 5 then true else (k == 7)) := by
 by_cases k2 : k = 2
 ·subst k2;rfl
 by_cases k3 : k = 3
 ·subst k3;rfl
 by_cases k5 : k = 5
 ·subst k5;rfl
 rw [if_neg k2,if_neg k3,if_neg k5]
 rw [Bool.eq_iff_iff,decide_eq_true_eq,beq_iff_eq]
 omega
theorem some_if {c : Prop} [Decidable c] (b : Bool) : (if c then some true else some b) = some (if c then true else b) := by split <;> rfl
theorem specTerm_j0 (b : Bool) (l : ByteArray) (n : Int) (p : ByteArray) (k m : Int) (t ty : ByteArray) : Ev (fun f => xj.j0 f b l n p k m t ty) (!b && opOk n k) := by
 refine Ev.upA ?_
 simp only [xj.j0,some_if,← four]
 cases b
 case true => exact Ev.now _
 simp only [Bool.false_eq_true,if_false,Bool.not_false,Bool.true_and]
 by_cases n1 : n = 1
 ·rw [op_low (.inl n1)];simp only [if_pos n1];exact Ev.now _
 by_cases n2 : n = 2
 ·rw [op_low (.inr (.inl n2))];simp only [if_neg n1,if_pos n2];exact Ev.now _
 by_cases n3 : n = 3
 ·rw [op_low (.inr (.inr n3))];simp only [if_neg n1,if_neg n2,if_pos n3];exact Ev.now _
 by_cases n4 : n = 4
 ·rw [op_four n4];simp only [if_neg n1,if_neg n2,if_neg n3,if_pos n4];exact Ev.now _
 rw [op_none n1 n2 n3 n4]
 simp only [if_neg n1,if_neg n2,if_neg n3,if_neg n4]
 exact Ev.now _
theorem specTerm_ev (l : ByteArray) (n : Int) (p : ByteArray) (k m : Int) (t ty : ByteArray) (hl : okS l) (hp : okS p) (hm : okI m) (ht : okS t) (hty : okS ty) : Ev (fun f => xj.f f l n p k m t ty) (goodTerm l n p k m t ty) := by
 simp only [xj.f]
 refine Ev.bind (specName_ev l hl) ?_
 unfold goodTerm
 cases hg : goodName l
 case false => simp only [Bool.false_eq_true,if_false,Bool.false_and];exact specTerm_j0 true l n p k m t ty
 simp only [if_true,Bool.true_and]
 by_cases hz : p.size = 0
 ·simp only [if_pos (nil_list hz),decide_eq_true hz,Bool.true_and]
  refine Ev.bind (specGoodAtom_ev k m t ty ht hty (fun _ => hm)) ?_
  have := specTerm_j0 (!goodAtom k m t ty) l n p k m t ty
  rw [Bool.not_not] at this
  exact this
 ·simp only [if_neg (not_nil_list hz),decide_eq_false hz,Bool.false_and]
  exact specTerm_j0 true l n p k m t ty
theorem fits_ev (n k : Int) : Ev (fun f => vv.f f n k) (decide (n = 1) || opOk n k) := by
 simp only [vv.f]
 by_cases n1 : n = 1
 ·simp only [if_pos n1,decide_eq_true n1,Bool.true_or];exact Ev.now _
 simp only [if_neg n1,decide_eq_false n1,Bool.false_or]
 by_cases n2 : n = 2
 ·subst n2
  simp only [if_true]
  refine Ev.upA ?_
  simp only [vv.j0,show ((2 : Int) == 2) = true from rfl,if_true,some_if,← four]
  rw [op_low (.inr (.inl rfl))]
  exact Ev.now _
 simp only [if_neg n2]
 refine Ev.upA ?_
 simp only [vv.j0,some_if,← four]
 by_cases n3 : n = 3
 ·subst n3
  simp only [show ((3 : Int) == 3) = true from rfl,if_true]
  rw [op_low (.inr (.inr rfl))]
  exact Ev.now _
 simp only [beq_eq_false_iff_ne.2 n3,Bool.false_eq_true,if_false]
 by_cases n4 : n = 4
 ·subst n4
  simp only [if_true]
  rw [op_four rfl]
  exact Ev.now _
 simp only [if_neg n4]
 rw [op_none n1 n2 n3 n4]
 exact Ev.now _
theorem fits_both (n k : Int) (h4 : ¬ n = 4) : ((decide (n = 1) || opOk n k) && (decide ((2 : Int) = 1) || opOk 2 k)) = opOk n k := by
 rw [op_low (n := 2) (.inr (.inl rfl)),show decide ((2 : Int) = 1) = false from rfl,Bool.false_or]
 by_cases n1 : n = 1
 ·rw [decide_eq_true n1,Bool.true_or,Bool.true_and,op_low (.inl n1)]
 rw [decide_eq_false n1,Bool.false_or]
 by_cases h : n = 2 ∨ n = 3
 ·rw [op_low (.inr h),Bool.and_self]
 ·rw [op_none n1 (fun e => h (.inl e)) (fun e => h (.inr e)) h4,Bool.false_and]
theorem implTerm_ev (l : ByteArray) (n : Int) (p : ByteArray) (k m : Int) (t ty : ByteArray) (hl : okS l) (hp : okS p) (hm : okI m) (ht : okS t) (hty : okS ty) : Ev (fun f => vz.f f l n p k m t ty) (goodTerm l n p k m t ty) := by
 simp only [vz.f]
 refine Ev.bind (implName_ev l hl) ?_
 unfold goodTerm
 cases hg : goodName l
 case false => simp only [Bool.false_eq_true,if_false,Bool.false_and];exact Ev.now _
 simp only [if_true,Bool.true_and]
 by_cases hz : p.size = 0
 case neg => simp only [if_neg (not_nil_list hz),decide_eq_false hz,Bool.false_and];exact Ev.now _
 simp only [if_pos (nil_list hz),decide_eq_true hz,Bool.true_and]
 refine Ev.bind (implGoodAtom_ev k m t ty ht hty (fun _ => hm)) ?_
 cases ha : goodAtom k m t ty
 case false => simp only [Bool.false_eq_true,if_false,Bool.false_and];exact Ev.now _
 simp only [if_true,Bool.true_and]
 by_cases n4 : n = 4
 ·subst n4
  simp only [if_true]
  rw [op_four rfl]
  by_cases k6 : k = 6
  ·subst k6;exact Ev.now _
  ·simp only [if_neg k6,beq_eq_false_iff_ne.2 k6];exact Ev.now _
 simp only [if_neg n4]
 rw [← fits_both n k n4]
 refine Ev.bind (fits_ev n k) ?_
 cases hf : (decide (n = 1) || opOk n k)
 case false => simp only [Bool.false_eq_true,if_false,Bool.false_and];exact Ev.now _
 simp only [if_true,Bool.true_and]
 exact Ev.bind (fits_ev 2 k) (Ev.now _)
theorem goodTerm_parts {l : ByteArray} {n : Int} {p : ByteArray} {k m : Int} {t ty : ByteArray} (h : goodTerm l n p k m t ty = true) : l.size ≤ 30 ∧ goodAtom k m t ty = true ∧ (n = 1 ∨ n = 2 ∨ n = 3 ∨ n = 4) := by
 unfold goodTerm opOk at h
 simp only [Bool.and_eq_true,Bool.or_eq_true,decide_eq_true_eq] at h
 exact ⟨(name_size h.1).2,h.2.2.1,by omega⟩
theorem textB_le {k m : Int} {t ty : ByteArray} (h : goodAtom k m t ty = true) (hm : okI m) : (textB k m t ty).size ≤ 1000 := by
 have hnum := numS_le m hm
 have h1 := hm.1
 have h2 := hm.2
 have hq := quoteB_le t
 unfold textB
 by_cases k1 : k = 1
 ·rw [if_pos k1];split <;> decide
 rw [if_neg k1]
 by_cases k2 : k = 2
 ·rw [if_pos k2];omega
 rw [if_neg k2]
 by_cases k3 : k = 3
 ·have hs := (good_text h (.inl k3)).1
  rw [if_pos k3];omega
 rw [if_neg k3]
 by_cases k4 : k = 4
 ·have hs := good_text h (.inr k4)
  rw [if_pos k4]
  simp only [ByteArray.size_append,show (⟨#[58,58]⟩ : ByteArray).size = 2 from rfl];omega
 rw [if_neg k4]
 by_cases k5 : k = 5
 ·have hl := decS_le (m.natAbs / 10000) (by omega)
  rw [if_pos k5]
  unfold decB
  have e : (if m < 0 then (⟨#[45]⟩ : ByteArray) else ⟨#[]⟩).size ≤ 1 := by split <;> decide
  simp only [ByteArray.size_append,dig4_size,show (⟨#[46]⟩ : ByteArray).size = 1 from rfl];omega
 rw [if_neg k5]
 by_cases k6 : k = 6
 ·subst k6
  obtain ⟨e,q,e1,e2,he,hq,e3,e4⟩ := blk_parts (good_six h) h2
  rw [if_pos rfl,e1,e2]
  have d1 := dec10 (e / 16777216) (by omega)
  have d2 := dec3 (e / 65536 % 256) (by omega)
  have d3 := dec3 (e / 256 % 256) (by omega)
  have d4 := dec3 (e % 256) (by omega)
  have d5 := dec3 q (by omega)
  unfold blockB
  simp only [ByteArray.size_append,show (⟨#[46]⟩ : ByteArray).size = 1 from rfl,show (⟨#[47]⟩ : ByteArray).size = 1 from rfl];omega
 rw [if_neg k6]
 simp only [ByteArray.size_append,show (⟨#[64]⟩ : ByteArray).size = 1 from rfl];omega
def termS (l : ByteArray) (n : Int) (p : ByteArray) (k m : Int) (t ty : ByteArray) : ByteArray := if goodTerm l n p k m t ty = true then termB l n (textB k m t ty) else ⟨#[]⟩
theorem implTermText_ev (l : ByteArray) (n : Int) (p : ByteArray) (k m : Int) (t ty : ByteArray) (hl : okS l) (hp : okS p) (hm : okI m) (ht : okS t) (hty : okS ty) : Ev (fun f => kx.f f l n p k m t ty) (termS l n p k m t ty) := by
 simp only [kx.f]
 refine Ev.bind (implTerm_ev l n p k m t ty hl hp hm ht hty) ?_
 unfold termS
 cases hg : goodTerm l n p k m t ty
 case false => simp only [Bool.false_eq_true,if_false];exact Ev.now _
 obtain ⟨q1,q2,q3⟩ := goodTerm_parts hg
 have q4 := textB_le q2 hm
 simp only [if_true]
 have hi := implText_ev k m t ty ht hty hm
 rw [if_pos q2] at hi
 refine Ev.bind hi ?_
 refine Ev.ifP ⟨by omega,by omega,by omega,by omega⟩ ?_
 exact Ev.now _
theorem op_same {n : Int} (h : n = 1 ∨ n = 2 ∨ n = 3 ∨ n = 4) : rdOf ByteArray.empty ([(⟨#[]⟩ : ByteArray),(⟨#[61,61]⟩ : ByteArray),(⟨#[60]⟩ : ByteArray),(⟨#[60,61]⟩ : ByteArray),(⟨#[105,110]⟩ : ByteArray)] : List ByteArray) n = opAt n := by
 rcases h with rfl | rfl | rfl | rfl <;> rfl
theorem specTermText_ev (l : ByteArray) (n : Int) (p : ByteArray) (k m : Int) (t ty : ByteArray) (hl : okS l) (hp : okS p) (hm : okI m) (ht : okS t) (hty : okS ty) : Ev (fun f => xz.f f l n p k m t ty) (termS l n p k m t ty) := by
 simp only [xz.f]
 refine Ev.bind (specTerm_ev l n p k m t ty hl hp hm ht hty) ?_
 unfold termS
 cases hg : goodTerm l n p k m t ty
 case false => simp only [Bool.false_eq_true,if_false];exact Ev.now _
 obtain ⟨q1,q2,q3⟩ := goodTerm_parts hg
 have q4 := textB_le q2 hm
 have q5 := opAt_size n
 have z1 : (⟨#[32]⟩ : ByteArray).size = 1 := rfl
 simp only [if_true,qqw.f,Option.bind_some]
 refine Ev.ifP (by omega) ?_
 refine Ev.ifP (by omega) ?_
 refine Ev.ifP (by show n < 5;omega) ?_
 rw [op_same q3]
 refine Ev.ifP (by simp only [ByteArray.size_append];omega) ?_
 refine Ev.ifP (by simp only [ByteArray.size_append];omega) ?_
 refine Ev.bind (specText_ev k m t ty hm q2) ?_
 refine Ev.ifP (by simp only [ByteArray.size_append];omega) ?_
 exact Ev.now _
end Go.Proofs.YtnbbbjfjkhglhaaGreatDoor.Pr
namespace Go.Proofs.YtnbbbjfjkhglhaaGreatDoor.Pure
open Go.RowKit Go.Proofs.YtnbbbjfjkhglhaaGreatDoor.Read Go.Proofs.YtnbbbjfjkhglhaaGreatDoorW.PrintWords Go.Proofs.YtnbbbjfjkhglhaaGreatDoor.Pr
theorem szTerm_some (l : ByteArray) (n : Int) (p : ByteArray) (k m : Int) (t ty : ByteArray) (q : Int) : ∃ z,wk.f l n p k m t ty q = some z := by
 simp only [wk.f,wj.f]
 split
 ·exact ⟨_,rfl⟩
 ·split
  ·exact ⟨_,rfl⟩
  ·split
   ·exact ⟨_,rfl⟩
   ·split
    ·exact ⟨_,rfl⟩
    ·simp only [Option.bind_some]
     split <;> exact ⟨_,rfl⟩
theorem FnExactTermText : wz.Pure := by
 intro l n p k m t ty hl hn hp hk hm ht hty
 obtain ⟨z,hz⟩ := szTerm_some l n p k m t ty 1048576
 have h : Ev (fun f => wz.f f l n p k m t ty) true := by
  simp only [wz.f,hz,Option.bind_some,ww.f,wv.f]
  by_cases h0 : z < 0
  ·simp only [if_pos h0];exact Ev.now _
  simp only [if_neg h0]
  refine Ev.bind (specTermText_ev l n p k m t ty hl hp hm ht hty) ?_
  refine Ev.bind (implTermText_ev l n p k m t ty hl hp hm ht hty) ?_
  simp only [if_true]
  exact Ev.now _
 exact h.elim fun K hK => ⟨K,hK K (Nat.le_refl _)⟩
end Go.Proofs.YtnbbbjfjkhglhaaGreatDoor.Pure
namespace Go.Proofs.YtnbbbjfjkhglhaaGreatDoor.fnExactTermText
open Go.ChangeShapes Go.WideShapes Go.ChangeAt Go.RowKit Go.Proofs.YtnbbbjfjkhglhaaGreatDoor.Read Go.Proofs.YtnbbbjfjkhglhaaGreatDoorW.PrintWords Go.Proofs.YtnbbbjfjkhglhaaGreatDoor.Pr
open Go.ChangeMaps (open_string shut_string)
set_option linter.unusedVariables false
theorem own : ownKnob Tryz.prog.godebug = none := by kernel_rfl
theorem laidOut : laidOutB Tryz.prog = true := by kernel_rfl
def tabCells (d : DataW Unit) : Array Value := match d with | .agg l => (l.map fun x => match x with | .lit (.int k z) => Value.int k z | _ => undef).toArray | _ => #[]
noncomputable def laidWorld (os : Os) : World := { World.holding Tryz.prog os ⟨#[],#[],[]⟩ with heap := (fun h => (h.modify 0 fun | .cells _ t frozen => .cells #[.slice (some ⟨h.size,0,none⟩) 4 4] t frozen | o => o).push (.cells #[.string ⟨#[61,61]⟩,.string ⟨#[60]⟩,.string ⟨#[60,61]⟩,.string ⟨#[105,110]⟩] 9 (0,0))) <| (fun h => h.modify 2 fun | .cells _ t frozen => .cells (tabCells Rows.laid_math_bits_deBruijn32tab) t frozen | o => o) <| (fun h => h.modify 3 fun | .cells _ t frozen => .cells (tabCells Rows.laid_math_bits_deBruijn64tab) t frozen | o => o) <| (fun h => h.modify 1 fun | .cells _ t frozen => .cells (tabCells Rows.laid_internal_strconv_uint64pow10) t frozen | o => o) <| (World.holding Tryz.prog os ⟨#[],#[],[]⟩).heap }
set_option maxRecDepth 100000 in
theorem laidWorld_met (os : Os) (args : Array Value) : laidMet Tryz.prog Rows.fnExactTermTextRow.laid ((laidWorld os).forCall (fun _ _ => 0) ⟨#[],args,[]⟩).memory :=
 laidMet_of_run' 8 (by kernel_rfl) (by kernel_rfl)
set_option maxRecDepth 100000 in
theorem tab_of_laid {W : World} (h : laidMet Tryz.prog Rows.fnExactTermTextRow.laid W) : TabW W := by
 have h2 : laidMet Tryz.prog (("internal/strconv.uint64pow10", Lib.tabData .u64 Lib.pow10Tab) :: ("loop.example/g00036/impl.yopWords", Rows.laid_loop_example_g00036_impl_yopWords) :: []) W := laidMet.tail (laidMet.tail ((show laidMet Tryz.prog (("math/bits.deBruijn32tab", Rows.laid_math_bits_deBruijn32tab) :: ("math/bits.deBruijn64tab", Rows.laid_math_bits_deBruijn64tab) :: ("internal/strconv.uint64pow10", Lib.tabData .u64 Lib.pow10Tab) :: ("loop.example/g00036/impl.yopWords", Rows.laid_loop_example_g00036_impl_yopWords) :: []) W from h)))
 refine ⟨Lib.tabIs_of_head (g := 1) (t := 129) (e := 81) (n := 20) (by kernel_rfl) (by kernel_rfl) Tryz.underlying129 Tryz.underlying81 (by kernel_rfl) (by kernel_rfl) h2,?_⟩
 obtain ⟨ps, hv, _, _⟩ := (laidMet.tail (h2) : laidMet Tryz.prog (("loop.example/g00036/impl.yopWords", Rows.laid_loop_example_g00036_impl_yopWords) :: []) W)
 obtain ⟨g,t,cs,fuel,p,q,hg,ht,hvar,htrod,_,_⟩ := hv
 obtain rfl : g = 0 := Option.some.inj (hg.symm.trans (by kernel_rfl))
 obtain rfl : t = 50 := Option.some.inj (ht.symm.trans (by kernel_rfl))
 obtain ⟨a,cap,hcs,hle,hel⟩ := open_row Tryz.underlying50 (by kernel_rfl) (show DataW.trod (fun _ => ()) Tryz.prog W 0 (fun _ => true) false fuel 50 cs.toList = some (.slice [.lit (.string [61,61]),.lit (.string [60]),.lit (.string [60,61]),.lit (.string [105,110])] [],p) from htrod)
 have hcs2 : cs = #[.slice (some a) 4 cap] := by cases cs;simp_all
 subst hcs2
 have hS : ∀ (i : Nat) (l : List UInt8),([.lit (.string [61,61]),.lit (.string [60]),.lit (.string [60,61]),.lit (.string [105,110])] : List (DataW Unit))[i]? = some (.lit (.string l)) → W.cell? (a.add i) = some (.string ⟨l.toArray⟩) := fun i l hi => by
  obtain ⟨v,m,q2,hc,hd⟩ := hel i _ hi
  obtain ⟨s,es,ex,_⟩ := DataW.trod_string Tryz.underlying9 hd
  obtain rfl : v = .string s := by simpa using es
  have e2 : l = s.data.toList := (show l = s.data.toList ∧ q2 = [] by simpa using ex).1
  rw [hc,e2]
 refine ⟨a,cap,by simpa using World.var?_cell hg hvar 0,fun i s hi => ?_⟩
 match i,hi with
 | 0,hi => obtain rfl := Option.some.inj hi;exact hS 0 _ rfl
 | 1,hi => obtain rfl := Option.some.inj hi;exact hS 1 _ rfl
 | 2,hi => obtain rfl := Option.some.inj hi;exact hS 2 _ rfl
 | 3,hi => obtain rfl := Option.some.inj hi;exact hS 3 _ rfl
 | i + 4,hi => cases hi
set_option maxRecDepth 100000 in
theorem lifted (os : Os) (started : os.Started) (H : Type) (enc : TypeId × Value → H) :
  ReturnsInHanded {} Tryz.checked os 3 .any (fun w args => (Rows.fnExactTermTextSpec.pre enc Tryz.prog Tryz.f3 Rows.fnExactTermTextRow.domain false w args ∧ laidMet Tryz.prog Rows.fnExactTermTextRow.laid w) ∧ sizedMet enc Tryz.prog Tryz.f3 (OpenSpec.ofChange Rows.fnExactTermTextSpec) false w args) (Rows.fnExactTermTextSpec.post enc Tryz.prog Tryz.f3 false true false false) := by
 refine returnsInHanded_of_change_and (C := Tryz.checked) (X := fun w _ => laidMet Tryz.prog Rows.fnExactTermTextRow.laid w) (fun _ _ _ hh h => h.of_heap hh) own started (by kernel_rfl) Tryz.func3
  (ChangeSpec.witness_shaped (enc := enc) (C := Tryz.checked) (os := os) (X := fun w _ => laidMet Tryz.prog Rows.fnExactTermTextRow.laid w) false (laidWorld os) #[.agg #[.string ByteArray.empty,.int .i64 0,.string ByteArray.empty,.int .i64 0,.int .i64 0,.string ByteArray.empty,.string ByteArray.empty]] 8 rfl (World.shaped_of_RefB (by kernel_rfl) (by kernel_rfl)) (by kernel_rfl) (by kernel_rfl) (by kernel_rfl) (laidWorld_met os _)) ?_
 intro W base args ds gs before hval0 hW hcnd _ hL _
 have htab := tab_of_laid hL
 clear hL
 have hval : ∀ (j : Nat) t v,Tryz.f3.params[j]? = some t → args[j]? = some v → Value.okWide Tryz.prog W .any base t v := hval0
 have hW' := hW
 obtain ⟨p,q,hA0,hV,rfl,hfz,hnd⟩ := hW
 have hA : DataW.TrodAll enc Tryz.prog W 0 (fun _ => true) true Tryz.f3.params.toList args.toList ds p := hA0
 rw [Tryz.params3] at hA hval
 obtain ⟨v0,vs0,d0,ds0,p0,q0,hargs,rfl,rfl,h0,r0⟩ := trodAll_cons hA
 obtain ⟨rfl,rfl,rfl⟩ := trodAll_nil r0
 obtain rfl : args = #[v0] := by cases args;simp_all
 obtain ⟨_,_,_,_,g1_,_,egs,_⟩ := trodVars_one hV
 subst egs
 have lt0 : ∀ x ∈ p0,x.block < W.heap.size := by obtain ⟨m,hm⟩ := h0;exact DataW.trod_lt m _ _ _ hm
 have bk0 := fun {W' : World} (bel : Below W.heap.size W W') => Below.trod laidOut (by kernel_rfl) (of_decide_eq_true (by kernel_rfl)) h0 bel lt0
 obtain ⟨⟨a0_0,⟨a0_1,⟨a0_2,⟨a0_3,⟨a0_4,⟨a0_5,a0_6⟩⟩⟩⟩⟩⟩,cs0,hv0,hK0,⟨o0_0,⟨o0_1,⟨o0_2,⟨o0_3,⟨o0_4,⟨o0_5,o0_6⟩⟩⟩⟩⟩⟩⟩ := arg_struct Tryz.underlying25 (tells_struct Tryz.underlying25 (by kernel_rfl) (fs_cons rfl (tellsS Tryz.underlying9 (by kernel_rfl)) (fs_cons rfl (tellsI Tryz.underlying3 (by kernel_rfl)) (fs_cons rfl (tellsS Tryz.underlying9 (by kernel_rfl)) (fs_one rfl (tells_struct Tryz.underlying23 (by kernel_rfl) (fs_cons rfl (tellsI Tryz.underlying3 (by kernel_rfl)) (fs_cons rfl (tellsI Tryz.underlying3 (by kernel_rfl)) (fs_cons rfl (tellsS Tryz.underlying9 (by kernel_rfl)) (fs_one rfl (tellsS Tryz.underlying9 (by kernel_rfl)))))))))))) (hval 0 25 v0 rfl rfl) h0
 obtain ⟨_,_,rfl,rfl,⟨_,_,rfl,rfl,⟨_,_,rfl,rfl,⟨_,_,rfl,rfl,⟨_,_,rfl,rfl,⟨_,_,rfl,rfl,rfl⟩⟩⟩⟩⟩⟩ := hK0
 simp only [List.cons_append,List.nil_append] at hv0
 subst hv0
 obtain ⟨k,hk⟩ := Pure.FnExactTermText a0_0 a0_1 a0_2 a0_3 a0_4 a0_5 a0_6 o0_0 o0_1 o0_2 o0_3 o0_4 o0_5 o0_6
 refine (wz.calls k a0_0 a0_1 a0_2 a0_3 a0_4 a0_5 a0_6 true W htab hk).mono fun e W' hpost => ?_
 obtain ⟨he,hb⟩ := hpost
 have bel : Below W.heap.size W W' := hb
 subst he
 exact ⟨_,rfl,_,_,_,[],_,_,hW',trodAll_mk1 (shut_bool Tryz.underlying4 _),(trodAll_cons_mk (bk0 bel) trodAll_mk0),Below.trodVars laidOut bel (by kernel_rfl) hV,bel.frame _,fun h => by cases h⟩
theorem over : Rows.fnExactTermTextRow.holds Tryz.pinned (OpenSpec.ofChange Rows.fnExactTermTextSpec) :=
 OpenClaim.holds_of_wide 3 Tryz.f3 rfl rfl rfl rfl rfl rfl rfl ⟨rfl,rfl,rfl,rfl,rfl⟩ rfl rfl rfl rfl rfl (by kernel_rfl) Tryz.func3 (by kernel_rfl)
  (of_decide_eq_true (by kernel_rfl)) (by unfold Func.isWrapper;first | (rw [if_pos (by decide +kernel)];kernel_rfl) | (rw [if_neg (by decide +kernel)];exact ⟨rfl,rfl⟩))
  (fun os started H enc _ => lifted os started H enc)
theorem row_holds : Rows.FnExactTermTextSaid := over
set_option maxRecDepth 100000 in
theorem proved : Rows.FnExactTermTextCardSaid :=
 Claim7.holds_tied_plain_at .later [] [.data, .data, .data, .widerDeep] true (true, "e76814c29f84dc0503eca739d862b5251f16267a6e53cac6adbafa9274c78e8d") true over (fun _ h => by cases h) (by kernel_rfl) (fun _ h => by cases h) fnExactTermText_row_tie rfl ⟨rfl, rfl⟩ (by kernel_rfl) rfl
  (fun f fn hf hfn => by
   obtain rfl : f = 3 := Option.some.inj ((show Tryz.prog.funcNamed "loop.example/g00036/laws.FnExactTermText" = some 3 by kernel_rfl).symm.trans hf) |>.symm
   obtain rfl : fn = Tryz.f3 := (Option.some.inj (Tryz.func3.symm.trans hfn)).symm
   exact ⟨by kernel_rfl,fun j t ht => by
    rw [Tryz.params3] at ht
    have hm : t ∈ ([25] : List TypeId) := by
     have h2 : ([25] : List TypeId)[j]? = some t := by simpa using ht
     exact List.mem_of_getElem? h2
    simp only [List.mem_cons,List.not_mem_nil,or_false] at hm
    rcases hm with rfl
    ·exact (show Tryz.prog.wantsStandIn 25 = false by kernel_rfl)⟩)
  (by kernel_rfl)
#print axioms proved
end Go.Proofs.YtnbbbjfjkhglhaaGreatDoor.fnExactTermText
namespace Go.Proofs.YtnbbbjfjkhglhaaGreatDoor
theorem fnExactTermText_holds : Rows.FnExactTermTextCardSaid := fnExactTermText.proved
end Go.Proofs.YtnbbbjfjkhglhaaGreatDoor
