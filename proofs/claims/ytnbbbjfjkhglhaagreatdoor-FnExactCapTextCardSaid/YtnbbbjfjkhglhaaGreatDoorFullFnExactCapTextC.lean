/- Printed texts, walks and plain facts that the law FnExactCapText leans on, joined. -/
import Derived.Test.YtnbbbjfjkhglhaaGreatDoorFullFnExactCapTextB
import Derived.Deep.RegionHeld3
import Derived.Deep.QuietTactic
import Derived.BigQuiet
import Derived.Laws.Cover1
import Derived.StillTailTactics
import Derived.Laws.BitsLemmas
import Derived.WalkSpells
import Derived.Shelf.Abstract
namespace Go.Proofs.YtnbbbjfjkhglhaaGreatDoor.Pr
open Go.RowKit Go.Proofs.YtnbbbjfjkhglhaaGreatDoorW.PrintWords Go.Proofs.YtnbbbjfjkhglhaaGreatDoorW.PrintLast Go.Proofs.YtnbbbjfjkhglhaaGreatDoorW.PrintMore
attribute [local go_sem] max2_int min2_int max_two min_two max_three min_three max_four min_four
set_option linter.unusedVariables false
set_option linter.unusedSimpArgs false
def vx.l0 : Nat → Int → ByteArray → Int → Int → Int → ByteArray → ByteArray → Option (ByteArray)
 | 0,_,_,_,_,_,_,_ => none
 | k + 1,x6,x7,x8,x102000,x102001,x102002,x102003 => if x8 ≥ 0 then (if 0 ≤ x8 then ((strconv_Itoa.f (Go.bits .and .i64 (shr .i64 x6 x8) 255)).bind fun t111 => (if t111.size + 1 ≤ 9223372036854775807 then (if x7.size + (t111 ++ (⟨#[46]⟩ : ByteArray)).size ≤ 9223372036854775807 then (vx.l0 k x6 (x7 ++ (t111 ++ (⟨#[46]⟩ : ByteArray))) (wrap64 (x8 - 8)) x102000 x102001 x102002 x102003) else (none)) else (none))) else (none)) else (if 0 ≤ (wrap64 ((x7.size : Int) - 1)) then (if (wrap64 ((x7.size : Int) - 1)) ≤ (x7.size : Int) then (if (x7.extract 0 ((wrap64 ((x7.size : Int) - 1)) : Int).toNat).size + 1 ≤ 9223372036854775807 then ((strconv_Itoa.f (Int.tmod x102001 64)).bind fun t112 => (if ((x7.extract 0 ((wrap64 ((x7.size : Int) - 1)) : Int).toNat) ++ (⟨#[47]⟩ : ByteArray)).size + t112.size ≤ 9223372036854775807 then (some (((x7.extract 0 ((wrap64 ((x7.size : Int) - 1)) : Int).toNat) ++ (⟨#[47]⟩ : ByteArray)) ++ t112)) else (none))) else (none)) else (none)) else (none))
def vx.f (k : Nat) (a0_0 : Int) (a0_1 : Int) (a0_2 : ByteArray) (a0_3 : ByteArray) : Option (ByteArray) := (wz.f k a0_0 a0_1 a0_2 a0_3).bind fun t102 => (if t102 = true then (if a0_0 = 1 then ((qwq.f (a0_1 == 1)).bind fun t103 => (some t103)) else (if a0_0 = 2 then ((strconv_Itoa.f a0_1).bind fun t104 => (some t104)) else (if a0_0 = 3 then ((xw.f a0_2).bind fun t105 => (some t105)) else (if a0_0 = 4 then (if a0_3.size + 2 ≤ 9223372036854775807 then ((xw.f a0_2).bind fun t106 => (if (a0_3 ++ (⟨#[58,58]⟩ : ByteArray)).size + t106.size ≤ 9223372036854775807 then (some ((a0_3 ++ (⟨#[58,58]⟩ : ByteArray)) ++ t106)) else (none))) else (none)) else (if a0_0 = 5 then (if a0_1 < 0 then ((qwj.f (IntKind.u64.wrap ((Int.tmod (IntKind.u64.wrap (-(IntKind.u64.wrap (a0_1)))) 10000) + 10000)) 10).bind fun t107 => ((qwj.f (IntKind.u64.wrap (Int.tdiv (IntKind.u64.wrap (-(IntKind.u64.wrap (a0_1)))) 10000)) 10).bind fun t108 => (if 1 + t108.size ≤ 9223372036854775807 then (if ((⟨#[45]⟩ : ByteArray) ++ t108).size + 1 ≤ 9223372036854775807 then (if 1 ≤ (t107.size : Int) then (if (((⟨#[45]⟩ : ByteArray) ++ t108) ++ (⟨#[46]⟩ : ByteArray)).size + (t107.extract 1 t107.size).size ≤ 9223372036854775807 then (some ((((⟨#[45]⟩ : ByteArray) ++ t108) ++ (⟨#[46]⟩ : ByteArray)) ++ (t107.extract 1 t107.size))) else (none)) else (none)) else (none)) else (none)))) else ((qwj.f (IntKind.u64.wrap ((Int.tmod (IntKind.u64.wrap (a0_1)) 10000) + 10000)) 10).bind fun t109 => ((qwj.f (IntKind.u64.wrap (Int.tdiv (IntKind.u64.wrap (a0_1)) 10000)) 10).bind fun t110 => (if 0 + t110.size ≤ 9223372036854775807 then (if ((⟨#[]⟩ : ByteArray) ++ t110).size + 1 ≤ 9223372036854775807 then (if 1 ≤ (t109.size : Int) then (if (((⟨#[]⟩ : ByteArray) ++ t110) ++ (⟨#[46]⟩ : ByteArray)).size + (t109.extract 1 t109.size).size ≤ 9223372036854775807 then (some ((((⟨#[]⟩ : ByteArray) ++ t110) ++ (⟨#[46]⟩ : ByteArray)) ++ (t109.extract 1 t109.size))) else (none)) else (none)) else (none)) else (none))))) else (if a0_0 = 6 then (vx.l0 k (wrap64 (Int.tdiv a0_1 64)) (⟨#[]⟩ : ByteArray) 24 a0_0 a0_1 a0_2 a0_3) else ((strconv_Itoa.f a0_1).bind fun t113 => (if 1 + t113.size ≤ 9223372036854775807 then (some ((⟨#[64]⟩ : ByteArray) ++ t113)) else (none))))))))) else (some (⟨#[]⟩ : ByteArray)))
def vx.T11 : Bool × List (List Nat × List Nat) := (true,[([],[]),([0],[0]),([1],[1]),([],[]),([3],[3]),([4],[4]),([2,5],[2,5]),([6,5,0,1,2,3,4,5,6],[6])])
def vx.B11 : List Nat := [0,1,3,0,8,24,63,127]
theorem vx.tab11 : rtab .any (opsOf Tryz.f25 11) = vx.T11 := by kernel_rfl
theorem vx.bits11 : waitsOk vx.T11.2 vx.B11 = true := by kernel_rfl
def vx.T17 : Bool × List (List Nat × List Nat) := (true,[([],[]),([],[]),([1],[1]),([2],[2]),([0,3],[0,3]),([4],[4]),([],[]),([6],[6]),([5,7],[5,7]),([8,3,0,1,2,3,4,5,6,7,8],[8])])
def vx.B17 : List Nat := [0,0,2,6,15,31,0,64,255,511]
theorem vx.tab17 : rtab .any (opsOf Tryz.f25 17) = vx.T17 := by kernel_rfl
theorem vx.bits17 : waitsOk vx.T17.2 vx.B17 = true := by kernel_rfl
def vx.T25 : Bool × List (List Nat × List Nat) := (true,[([],[]),([],[]),([1],[1]),([2],[2]),([0,3],[0,3]),([4],[4]),([],[]),([6],[6]),([7],[7]),([8],[8]),([5,9],[5,9]),([10,9,0,1,2,3,4,5,6,7,8,9,10],[10])])
def vx.B25 : List Nat := [0,0,2,6,15,31,0,64,192,448,1023,2047]
theorem vx.tab25 : rtab .any (opsOf Tryz.f25 25) = vx.T25 := by kernel_rfl
theorem vx.bits25 : waitsOk vx.T25.2 vx.B25 = true := by kernel_rfl
set_option maxHeartbeats 8000000 in
set_option maxRecDepth 100000 in
theorem vx.calls (k : Nat) (a0_0 : Int) (a0_1 : Int) (a0_2 : ByteArray) (a0_3 : ByteArray) (r : ByteArray) (w : World) (htab : TabW w) (h : vx.f k a0_0 a0_1 a0_2 a0_3 = some r) :
  Calls Tryz.prog 25 #[.agg #[.int .i64 a0_0,.int .i64 a0_1,.string a0_2,.string a0_3]] w fun e w' => e = .returned (.string r) ∧ Below w.heap.size w w' := by
 have HTAB := qq.mk htab
 clear htab
 have hu28 := Tryz.underlying28
 have HB := qq.mk (Below.refl w.heap.size w)
 have H : ((wz.f k a0_0 a0_1 a0_2 a0_3).bind fun t102 => (if t102 = true then (if a0_0 = 1 then ((qwq.f (a0_1 == 1)).bind fun t103 => (some t103)) else (if a0_0 = 2 then ((strconv_Itoa.f a0_1).bind fun t104 => (some t104)) else (if a0_0 = 3 then ((xw.f a0_2).bind fun t105 => (some t105)) else (if a0_0 = 4 then (if a0_3.size + 2 ≤ 9223372036854775807 then ((xw.f a0_2).bind fun t106 => (if (a0_3 ++ (⟨#[58,58]⟩ : ByteArray)).size + t106.size ≤ 9223372036854775807 then (some ((a0_3 ++ (⟨#[58,58]⟩ : ByteArray)) ++ t106)) else (none))) else (none)) else (if a0_0 = 5 then (if a0_1 < 0 then ((qwj.f (IntKind.u64.wrap ((Int.tmod (IntKind.u64.wrap (-(IntKind.u64.wrap (a0_1)))) 10000) + 10000)) 10).bind fun t107 => ((qwj.f (IntKind.u64.wrap (Int.tdiv (IntKind.u64.wrap (-(IntKind.u64.wrap (a0_1)))) 10000)) 10).bind fun t108 => (if 1 + t108.size ≤ 9223372036854775807 then (if ((⟨#[45]⟩ : ByteArray) ++ t108).size + 1 ≤ 9223372036854775807 then (if 1 ≤ (t107.size : Int) then (if (((⟨#[45]⟩ : ByteArray) ++ t108) ++ (⟨#[46]⟩ : ByteArray)).size + (t107.extract 1 t107.size).size ≤ 9223372036854775807 then (some ((((⟨#[45]⟩ : ByteArray) ++ t108) ++ (⟨#[46]⟩ : ByteArray)) ++ (t107.extract 1 t107.size))) else (none)) else (none)) else (none)) else (none)))) else ((qwj.f (IntKind.u64.wrap ((Int.tmod (IntKind.u64.wrap (a0_1)) 10000) + 10000)) 10).bind fun t109 => ((qwj.f (IntKind.u64.wrap (Int.tdiv (IntKind.u64.wrap (a0_1)) 10000)) 10).bind fun t110 => (if 0 + t110.size ≤ 9223372036854775807 then (if ((⟨#[]⟩ : ByteArray) ++ t110).size + 1 ≤ 9223372036854775807 then (if 1 ≤ (t109.size : Int) then (if (((⟨#[]⟩ : ByteArray) ++ t110) ++ (⟨#[46]⟩ : ByteArray)).size + (t109.extract 1 t109.size).size ≤ 9223372036854775807 then (some ((((⟨#[]⟩ : ByteArray) ++ t110) ++ (⟨#[46]⟩ : ByteArray)) ++ (t109.extract 1 t109.size))) else (none)) else (none)) else (none)) else (none))))) else (if a0_0 = 6 then (vx.l0 k (wrap64 (Int.tdiv a0_1 64)) (⟨#[]⟩ : ByteArray) 24 a0_0 a0_1 a0_2 a0_3) else ((strconv_Itoa.f a0_1).bind fun t113 => (if 1 + t113.size ≤ 9223372036854775807 then (some ((⟨#[64]⟩ : ByteArray) ++ t113)) else (none))))))))) else (some (⟨#[]⟩ : ByteArray)))) = some r := h
 clear h
 replace H := Option.bind_eq_some_iff.mp H
 obtain ⟨t102,A20,H⟩ := H
 replace H : (if t102 = true then (if a0_0 = 1 then ((qwq.f (a0_1 == 1)).bind fun t103 => (some t103)) else (if a0_0 = 2 then ((strconv_Itoa.f a0_1).bind fun t104 => (some t104)) else (if a0_0 = 3 then ((xw.f a0_2).bind fun t105 => (some t105)) else (if a0_0 = 4 then (if a0_3.size + 2 ≤ 9223372036854775807 then ((xw.f a0_2).bind fun t106 => (if (a0_3 ++ (⟨#[58,58]⟩ : ByteArray)).size + t106.size ≤ 9223372036854775807 then (some ((a0_3 ++ (⟨#[58,58]⟩ : ByteArray)) ++ t106)) else (none))) else (none)) else (if a0_0 = 5 then (if a0_1 < 0 then ((qwj.f (IntKind.u64.wrap ((Int.tmod (IntKind.u64.wrap (-(IntKind.u64.wrap (a0_1)))) 10000) + 10000)) 10).bind fun t107 => ((qwj.f (IntKind.u64.wrap (Int.tdiv (IntKind.u64.wrap (-(IntKind.u64.wrap (a0_1)))) 10000)) 10).bind fun t108 => (if 1 + t108.size ≤ 9223372036854775807 then (if ((⟨#[45]⟩ : ByteArray) ++ t108).size + 1 ≤ 9223372036854775807 then (if 1 ≤ (t107.size : Int) then (if (((⟨#[45]⟩ : ByteArray) ++ t108) ++ (⟨#[46]⟩ : ByteArray)).size + (t107.extract 1 t107.size).size ≤ 9223372036854775807 then (some ((((⟨#[45]⟩ : ByteArray) ++ t108) ++ (⟨#[46]⟩ : ByteArray)) ++ (t107.extract 1 t107.size))) else (none)) else (none)) else (none)) else (none)))) else ((qwj.f (IntKind.u64.wrap ((Int.tmod (IntKind.u64.wrap (a0_1)) 10000) + 10000)) 10).bind fun t109 => ((qwj.f (IntKind.u64.wrap (Int.tdiv (IntKind.u64.wrap (a0_1)) 10000)) 10).bind fun t110 => (if 0 + t110.size ≤ 9223372036854775807 then (if ((⟨#[]⟩ : ByteArray) ++ t110).size + 1 ≤ 9223372036854775807 then (if 1 ≤ (t109.size : Int) then (if (((⟨#[]⟩ : ByteArray) ++ t110) ++ (⟨#[46]⟩ : ByteArray)).size + (t109.extract 1 t109.size).size ≤ 9223372036854775807 then (some ((((⟨#[]⟩ : ByteArray) ++ t110) ++ (⟨#[46]⟩ : ByteArray)) ++ (t109.extract 1 t109.size))) else (none)) else (none)) else (none)) else (none))))) else (if a0_0 = 6 then (vx.l0 k (wrap64 (Int.tdiv a0_1 64)) (⟨#[]⟩ : ByteArray) 24 a0_0 a0_1 a0_2 a0_3) else ((strconv_Itoa.f a0_1).bind fun t113 => (if 1 + t113.size ≤ 9223372036854775807 then (some ((⟨#[64]⟩ : ByteArray) ++ t113)) else (none))))))))) else (some (⟨#[]⟩ : ByteArray))) = some r := H
 have A2 := qq.mk A20
 clear A20
 by_cases c3 : t102 = true
 ·subst c3
  have H1 : (if a0_0 = 1 then ((qwq.f (a0_1 == 1)).bind fun t103 => (some t103)) else (if a0_0 = 2 then ((strconv_Itoa.f a0_1).bind fun t104 => (some t104)) else (if a0_0 = 3 then ((xw.f a0_2).bind fun t105 => (some t105)) else (if a0_0 = 4 then (if a0_3.size + 2 ≤ 9223372036854775807 then ((xw.f a0_2).bind fun t106 => (if (a0_3 ++ (⟨#[58,58]⟩ : ByteArray)).size + t106.size ≤ 9223372036854775807 then (some ((a0_3 ++ (⟨#[58,58]⟩ : ByteArray)) ++ t106)) else (none))) else (none)) else (if a0_0 = 5 then (if a0_1 < 0 then ((qwj.f (IntKind.u64.wrap ((Int.tmod (IntKind.u64.wrap (-(IntKind.u64.wrap (a0_1)))) 10000) + 10000)) 10).bind fun t107 => ((qwj.f (IntKind.u64.wrap (Int.tdiv (IntKind.u64.wrap (-(IntKind.u64.wrap (a0_1)))) 10000)) 10).bind fun t108 => (if 1 + t108.size ≤ 9223372036854775807 then (if ((⟨#[45]⟩ : ByteArray) ++ t108).size + 1 ≤ 9223372036854775807 then (if 1 ≤ (t107.size : Int) then (if (((⟨#[45]⟩ : ByteArray) ++ t108) ++ (⟨#[46]⟩ : ByteArray)).size + (t107.extract 1 t107.size).size ≤ 9223372036854775807 then (some ((((⟨#[45]⟩ : ByteArray) ++ t108) ++ (⟨#[46]⟩ : ByteArray)) ++ (t107.extract 1 t107.size))) else (none)) else (none)) else (none)) else (none)))) else ((qwj.f (IntKind.u64.wrap ((Int.tmod (IntKind.u64.wrap (a0_1)) 10000) + 10000)) 10).bind fun t109 => ((qwj.f (IntKind.u64.wrap (Int.tdiv (IntKind.u64.wrap (a0_1)) 10000)) 10).bind fun t110 => (if 0 + t110.size ≤ 9223372036854775807 then (if ((⟨#[]⟩ : ByteArray) ++ t110).size + 1 ≤ 9223372036854775807 then (if 1 ≤ (t109.size : Int) then (if (((⟨#[]⟩ : ByteArray) ++ t110) ++ (⟨#[46]⟩ : ByteArray)).size + (t109.extract 1 t109.size).size ≤ 9223372036854775807 then (some ((((⟨#[]⟩ : ByteArray) ++ t110) ++ (⟨#[46]⟩ : ByteArray)) ++ (t109.extract 1 t109.size))) else (none)) else (none)) else (none)) else (none))))) else (if a0_0 = 6 then (vx.l0 k (wrap64 (Int.tdiv a0_1 64)) (⟨#[]⟩ : ByteArray) 24 a0_0 a0_1 a0_2 a0_3) else ((strconv_Itoa.f a0_1).bind fun t113 => (if 1 + t113.size ≤ 9223372036854775807 then (some ((⟨#[64]⟩ : ByteArray) ++ t113)) else (none))))))))) = some r := by rw [if_pos rfl] at H;exact H
  clear H
  have H := H1
  clear H1
  by_cases c4 : a0_0 = 1
  ·rw [if_pos c4] at H
   have c4b0 : (a0_0 == 1) = true := beq_iff_eq.mpr c4
   have c4b1 : (a0_0 != 1) = false := bne_eq_false_iff_eq.mpr c4
   clear c4
   replace H := Option.bind_eq_some_iff.mp H
   obtain ⟨t103,A50,H⟩ := H
   replace H : (some t103) = some r := H
   have A5 := qq.mk A50
   clear A50
   obtain rfl := Option.some.inj H
   go_enter Tryz.func25,Tryz.ntmps25
   go_wp2_with (first | ((with_reducible refine gate_dst (N := 1) rfl ?_);refine box_event ?hg (N := 1) ?hd (cs := #[.int .i64 a0_0,.int .i64 a0_1,.string a0_2,.string a0_3]) (t := 28) ?hr ?_;(case hd => rfl);(case hg => rfl);(case hr => first | (go_simp;done) | (go_simp;rfl));intro gb101 hg w6 hbox hb;have n0_ := qq.mk (zv (by repeat (first | (with_reducible first | exact HB.out | apply qj | apply qz | apply qk) | exact HB.out)) hb);have n1_ := qq.mk (hbox);have n2_ := qq.mk ((by rw [hg];exact (zw (by repeat (first | (with_reducible first | exact HB.out | apply qj | apply qz | apply qk) | exact HB.out))) : w.heap.size ≤ gb101));have n3_ := qq.mk ((by rw [hg];exact (zw (by repeat (first | (with_reducible first | exact HB.out | apply qj | apply qz | apply qk) | exact HB.out))) : w.heap.size ≤ gb101));clear HB;have HB := n0_;have BK101 := n1_;have GW101 := n2_;have GE101 := n3_;clear n0_ n1_ n2_ n3_;clear hb hbox hg;have hcz7_0 : w6.cell? ⟨gb101,0,none⟩ = some (.int .i64 a0_0) := (qw BK101.out 0).trans rfl;have hcz7_1 : w6.cell? ⟨gb101,1,none⟩ = some (.int .i64 a0_1) := (qw BK101.out 1).trans rfl;have hcz7_2 : w6.cell? ⟨gb101,2,none⟩ = some (.string a0_2) := (qw BK101.out 2).trans rfl;have hcz7_3 : w6.cell? ⟨gb101,3,none⟩ = some (.string a0_3) := (qw BK101.out 3).trans rfl;have hfz7_0 := qv BK101.out 0;have hfz7_1 := qv BK101.out 1;have hfz7_2 := qv BK101.out 2;have hfz7_3 := qv BK101.out 3) | ((with_reducible refine jv (f := 52) rfl ?_);refine goesL_ (some 10) rfl rfl Tryz.func52 (by kernel_rfl) rfl #[.agg #[.int .i64 a0_0,.int .i64 a0_1,.string a0_2,.string a0_3]] rfl (by (try simp only [List.map_toArray,List.map_cons,List.map_nil]);first | done | rfl | (simp only [List.length_drop,List.length_take];rfl)) ?_;(with_reducible refine (wz.calls k a0_0 a0_1 a0_2 a0_3 true _ A2.out).mono ?_);rintro e w8 ⟨rfl,hb⟩;refine ⟨_,rfl,?_⟩;have n0_ := qq.mk (kw (g := gb101) (o := .cells #[.int .i64 a0_0,.int .i64 a0_1,.string a0_2,.string a0_3] 28 (0,0)) (by (with_reducible repeat (first | refine zz ?_ _ | refine zj ?_ | refine zq ?_ _));exact BK101.out) hb);have n1_ := qq.mk (zv (by repeat (first | (with_reducible first | exact HB.out | apply qj | apply qz | apply qk | refine qx ?_ GE101.out) | exact HB.out)) hb);clear BK101;clear HB;have BK101 := n0_;have HB := n1_;clear n0_ n1_;(try clear hb);(try clear hb2);(try clear hk);(try clear hi);have hcz9_0 : w8.cell? ⟨gb101,0,none⟩ = some (.int .i64 a0_0) := (qw BK101.out 0).trans rfl;have hcz9_1 : w8.cell? ⟨gb101,1,none⟩ = some (.int .i64 a0_1) := (qw BK101.out 1).trans rfl;have hcz9_2 : w8.cell? ⟨gb101,2,none⟩ = some (.string a0_2) := (qw BK101.out 2).trans rfl;have hcz9_3 : w8.cell? ⟨gb101,3,none⟩ = some (.string a0_3) := (qw BK101.out 3).trans rfl;have hfz9_0 := qv BK101.out 0;have hfz9_1 := qv BK101.out 1;have hfz9_2 := qv BK101.out 2;have hfz9_3 := qv BK101.out 3) | ((with_reducible refine jv (f := 54) rfl ?_);refine goesL_ (some 19) rfl rfl Tryz.func54 (by kernel_rfl) rfl #[.bool (a0_1 == 1)] rfl (by (try simp only [List.map_toArray,List.map_cons,List.map_nil]);first | done | rfl | (simp only [List.length_drop,List.length_take];rfl)) ?_;(with_reducible refine (qwq.calls (a0_1 == 1) t103 _ A5.out).mono ?_);rintro e w' ⟨rfl,⟨nd,rfl⟩⟩;refine ⟨_,rfl,?_⟩))
   go_ret
   exact ⟨by first | rfl | (simp [*,jk,jj] <;> rfl),by repeat (first | (with_reducible first | exact HB.out | apply qj | apply qz | apply qk | refine qx ?_ GE101.out) | exact HB.out)⟩
  ·rw [if_neg c4] at H
   have c4b0 : (a0_0 == 1) = false := beq_eq_false_iff_ne.mpr c4
   have c4b1 : (a0_0 != 1) = true := bne_iff_ne.mpr c4
   by_cases c10 : a0_0 = 2
   ·rw [if_pos c10] at H
    have c10b0 : (a0_0 == 2) = true := beq_iff_eq.mpr c10
    have c10b1 : (a0_0 != 2) = false := bne_eq_false_iff_eq.mpr c10
    clear c10
    replace H := Option.bind_eq_some_iff.mp H
    obtain ⟨t104,A110,H⟩ := H
    replace H : (some t104) = some r := H
    have A11 := qq.mk A110
    clear A110
    obtain rfl := Option.some.inj H
    go_enter Tryz.func25,Tryz.ntmps25
    go_wp2_with (first | ((with_reducible refine gate_dst (N := 1) rfl ?_);refine box_event ?hg (N := 1) ?hd (cs := #[.int .i64 a0_0,.int .i64 a0_1,.string a0_2,.string a0_3]) (t := 28) ?hr ?_;(case hd => rfl);(case hg => rfl);(case hr => first | (go_simp;done) | (go_simp;rfl));intro gb101 hg w12 hbox hb;have n0_ := qq.mk (zv (by repeat (first | (with_reducible first | exact HB.out | apply qj | apply qz | apply qk) | exact HB.out)) hb);have n1_ := qq.mk (hbox);have n2_ := qq.mk ((by rw [hg];exact (zw (by repeat (first | (with_reducible first | exact HB.out | apply qj | apply qz | apply qk) | exact HB.out))) : w.heap.size ≤ gb101));have n3_ := qq.mk ((by rw [hg];exact (zw (by repeat (first | (with_reducible first | exact HB.out | apply qj | apply qz | apply qk) | exact HB.out))) : w.heap.size ≤ gb101));clear HB;have HB := n0_;have BK101 := n1_;have GW101 := n2_;have GE101 := n3_;clear n0_ n1_ n2_ n3_;clear hb hbox hg;have hcz13_0 : w12.cell? ⟨gb101,0,none⟩ = some (.int .i64 a0_0) := (qw BK101.out 0).trans rfl;have hcz13_1 : w12.cell? ⟨gb101,1,none⟩ = some (.int .i64 a0_1) := (qw BK101.out 1).trans rfl;have hcz13_2 : w12.cell? ⟨gb101,2,none⟩ = some (.string a0_2) := (qw BK101.out 2).trans rfl;have hcz13_3 : w12.cell? ⟨gb101,3,none⟩ = some (.string a0_3) := (qw BK101.out 3).trans rfl;have hfz13_0 := qv BK101.out 0;have hfz13_1 := qv BK101.out 1;have hfz13_2 := qv BK101.out 2;have hfz13_3 := qv BK101.out 3) | ((with_reducible refine jv (f := 52) rfl ?_);refine goesL_ (some 10) rfl rfl Tryz.func52 (by kernel_rfl) rfl #[.agg #[.int .i64 a0_0,.int .i64 a0_1,.string a0_2,.string a0_3]] rfl (by (try simp only [List.map_toArray,List.map_cons,List.map_nil]);first | done | rfl | (simp only [List.length_drop,List.length_take];rfl)) ?_;(with_reducible refine (wz.calls k a0_0 a0_1 a0_2 a0_3 true _ A2.out).mono ?_);rintro e w14 ⟨rfl,hb⟩;refine ⟨_,rfl,?_⟩;have n0_ := qq.mk (kw (g := gb101) (o := .cells #[.int .i64 a0_0,.int .i64 a0_1,.string a0_2,.string a0_3] 28 (0,0)) (by (with_reducible repeat (first | refine zz ?_ _ | refine zj ?_ | refine zq ?_ _));exact BK101.out) hb);have n1_ := qq.mk (zv (by repeat (first | (with_reducible first | exact HB.out | apply qj | apply qz | apply qk | refine qx ?_ GE101.out) | exact HB.out)) hb);clear BK101;clear HB;have BK101 := n0_;have HB := n1_;clear n0_ n1_;(try clear hb);(try clear hb2);(try clear hk);(try clear hi);have hcz15_0 : w14.cell? ⟨gb101,0,none⟩ = some (.int .i64 a0_0) := (qw BK101.out 0).trans rfl;have hcz15_1 : w14.cell? ⟨gb101,1,none⟩ = some (.int .i64 a0_1) := (qw BK101.out 1).trans rfl;have hcz15_2 : w14.cell? ⟨gb101,2,none⟩ = some (.string a0_2) := (qw BK101.out 2).trans rfl;have hcz15_3 : w14.cell? ⟨gb101,3,none⟩ = some (.string a0_3) := (qw BK101.out 3).trans rfl;have hfz15_0 := qv BK101.out 0;have hfz15_1 := qv BK101.out 1;have hfz15_2 := qv BK101.out 2;have hfz15_3 := qv BK101.out 3) | ((with_reducible refine jv (f := 55) rfl ?_);refine goesL_ (some 24) rfl rfl Tryz.func55 (by kernel_rfl) rfl #[.int .i64 a0_1] rfl (by (try simp only [List.map_toArray,List.map_cons,List.map_nil]);first | done | rfl | (simp only [List.length_drop,List.length_take];rfl)) ?_;(with_reducible refine (strconv_Itoa.calls a0_1 t104 _ ?tabw A11.out).mono ?_);(case tabw => repeat (first | exact HTAB.out | exact TabW_below HTAB.out HB.out | exact TabW_below HTAB.out (by repeat (first | exact HB.out | apply qj | apply qz | apply qk | refine qx ?_ GE101.out)) | (with_reducible refine TabW_drewN ?_ _) | (with_reducible refine TabW_drew ?_) | (with_reducible refine TabW_alloc ?_ _)));rintro e w16 ⟨rfl,hb⟩;refine ⟨_,rfl,?_⟩;have n0_ := qq.mk (kw (g := gb101) (o := .cells #[.int .i64 a0_0,.int .i64 a0_1,.string a0_2,.string a0_3] 28 (0,0)) (by (with_reducible repeat (first | refine zz ?_ _ | refine zj ?_ | refine zq ?_ _));exact BK101.out) hb);have n1_ := qq.mk (zv (by repeat (first | (with_reducible first | exact HB.out | apply qj | apply qz | apply qk | refine qx ?_ GE101.out) | exact HB.out)) hb);clear BK101;clear HB;have BK101 := n0_;have HB := n1_;clear n0_ n1_;(try clear hb);(try clear hb2);(try clear hk);(try clear hi)))
    go_ret
    exact ⟨by first | rfl | (simp [*,jk,jj] <;> rfl),by repeat (first | (with_reducible first | exact HB.out | apply qj | apply qz | apply qk | refine qx ?_ GE101.out) | exact HB.out)⟩
   ·rw [if_neg c10] at H
    have c10b0 : (a0_0 == 2) = false := beq_eq_false_iff_ne.mpr c10
    have c10b1 : (a0_0 != 2) = true := bne_iff_ne.mpr c10
    by_cases c17 : a0_0 = 3
    ·rw [if_pos c17] at H
     have c17b0 : (a0_0 == 3) = true := beq_iff_eq.mpr c17
     have c17b1 : (a0_0 != 3) = false := bne_eq_false_iff_eq.mpr c17
     clear c17
     replace H := Option.bind_eq_some_iff.mp H
     obtain ⟨t105,A180,H⟩ := H
     replace H : (some t105) = some r := H
     have A18 := qq.mk A180
     clear A180
     obtain rfl := Option.some.inj H
     go_enter Tryz.func25,Tryz.ntmps25
     go_wp2_with (first | ((with_reducible refine gate_dst (N := 1) rfl ?_);refine box_event ?hg (N := 1) ?hd (cs := #[.int .i64 a0_0,.int .i64 a0_1,.string a0_2,.string a0_3]) (t := 28) ?hr ?_;(case hd => rfl);(case hg => rfl);(case hr => first | (go_simp;done) | (go_simp;rfl));intro gb101 hg w19 hbox hb;have n0_ := qq.mk (zv (by repeat (first | (with_reducible first | exact HB.out | apply qj | apply qz | apply qk) | exact HB.out)) hb);have n1_ := qq.mk (hbox);have n2_ := qq.mk ((by rw [hg];exact (zw (by repeat (first | (with_reducible first | exact HB.out | apply qj | apply qz | apply qk) | exact HB.out))) : w.heap.size ≤ gb101));have n3_ := qq.mk ((by rw [hg];exact (zw (by repeat (first | (with_reducible first | exact HB.out | apply qj | apply qz | apply qk) | exact HB.out))) : w.heap.size ≤ gb101));clear HB;have HB := n0_;have BK101 := n1_;have GW101 := n2_;have GE101 := n3_;clear n0_ n1_ n2_ n3_;clear hb hbox hg;have hcz20_0 : w19.cell? ⟨gb101,0,none⟩ = some (.int .i64 a0_0) := (qw BK101.out 0).trans rfl;have hcz20_1 : w19.cell? ⟨gb101,1,none⟩ = some (.int .i64 a0_1) := (qw BK101.out 1).trans rfl;have hcz20_2 : w19.cell? ⟨gb101,2,none⟩ = some (.string a0_2) := (qw BK101.out 2).trans rfl;have hcz20_3 : w19.cell? ⟨gb101,3,none⟩ = some (.string a0_3) := (qw BK101.out 3).trans rfl;have hfz20_0 := qv BK101.out 0;have hfz20_1 := qv BK101.out 1;have hfz20_2 := qv BK101.out 2;have hfz20_3 := qv BK101.out 3) | ((with_reducible refine jv (f := 52) rfl ?_);refine goesL_ (some 10) rfl rfl Tryz.func52 (by kernel_rfl) rfl #[.agg #[.int .i64 a0_0,.int .i64 a0_1,.string a0_2,.string a0_3]] rfl (by (try simp only [List.map_toArray,List.map_cons,List.map_nil]);first | done | rfl | (simp only [List.length_drop,List.length_take];rfl)) ?_;(with_reducible refine (wz.calls k a0_0 a0_1 a0_2 a0_3 true _ A2.out).mono ?_);rintro e w21 ⟨rfl,hb⟩;refine ⟨_,rfl,?_⟩;have n0_ := qq.mk (kw (g := gb101) (o := .cells #[.int .i64 a0_0,.int .i64 a0_1,.string a0_2,.string a0_3] 28 (0,0)) (by (with_reducible repeat (first | refine zz ?_ _ | refine zj ?_ | refine zq ?_ _));exact BK101.out) hb);have n1_ := qq.mk (zv (by repeat (first | (with_reducible first | exact HB.out | apply qj | apply qz | apply qk | refine qx ?_ GE101.out) | exact HB.out)) hb);clear BK101;clear HB;have BK101 := n0_;have HB := n1_;clear n0_ n1_;(try clear hb);(try clear hb2);(try clear hk);(try clear hi);have hcz22_0 : w21.cell? ⟨gb101,0,none⟩ = some (.int .i64 a0_0) := (qw BK101.out 0).trans rfl;have hcz22_1 : w21.cell? ⟨gb101,1,none⟩ = some (.int .i64 a0_1) := (qw BK101.out 1).trans rfl;have hcz22_2 : w21.cell? ⟨gb101,2,none⟩ = some (.string a0_2) := (qw BK101.out 2).trans rfl;have hcz22_3 : w21.cell? ⟨gb101,3,none⟩ = some (.string a0_3) := (qw BK101.out 3).trans rfl;have hfz22_0 := qv BK101.out 0;have hfz22_1 := qv BK101.out 1;have hfz22_2 := qv BK101.out 2;have hfz22_3 := qv BK101.out 3) | ((with_reducible refine jv (f := 56) rfl ?_);refine goesL_ (some 29) rfl rfl Tryz.func56 (by kernel_rfl) rfl #[.string a0_2] rfl (by (try simp only [List.map_toArray,List.map_cons,List.map_nil]);first | done | rfl | (simp only [List.length_drop,List.length_take];rfl)) ?_;(with_reducible refine (xw.calls a0_2 t105 _ A18.out).mono ?_);rintro e w23 ⟨rfl,hb⟩;refine ⟨_,rfl,?_⟩;have n0_ := qq.mk (kw (g := gb101) (o := .cells #[.int .i64 a0_0,.int .i64 a0_1,.string a0_2,.string a0_3] 28 (0,0)) (by (with_reducible repeat (first | refine zz ?_ _ | refine zj ?_ | refine zq ?_ _));exact BK101.out) hb);have n1_ := qq.mk (zv (by repeat (first | (with_reducible first | exact HB.out | apply qj | apply qz | apply qk | refine qx ?_ GE101.out) | exact HB.out)) hb);clear BK101;clear HB;have BK101 := n0_;have HB := n1_;clear n0_ n1_;(try clear hb);(try clear hb2);(try clear hk);(try clear hi)))
     go_ret
     exact ⟨by first | rfl | (simp [*,jk,jj] <;> rfl),by repeat (first | (with_reducible first | exact HB.out | apply qj | apply qz | apply qk | refine qx ?_ GE101.out) | exact HB.out)⟩
    ·rw [if_neg c17] at H
     have c17b0 : (a0_0 == 3) = false := beq_eq_false_iff_ne.mpr c17
     have c17b1 : (a0_0 != 3) = true := bne_iff_ne.mpr c17
     by_cases c24 : a0_0 = 4
     ·rw [if_pos c24] at H
      have c24b0 : (a0_0 == 4) = true := beq_iff_eq.mpr c24
      have c24b1 : (a0_0 != 4) = false := bne_eq_false_iff_eq.mpr c24
      clear c24
      by_cases c25 : a0_3.size + 2 ≤ 9223372036854775807
      ·rw [if_pos c25] at H
       have c25b0 := eq_true c25
       have c25b1 : decide (a0_3.size + 2 ≤ 9223372036854775807) = true := decide_eq_true c25
       try have c25b2 : (9223372036854775807 < a0_3.size + 2) = False := eq_false (Nat.not_lt.2 c25)
       replace H := Option.bind_eq_some_iff.mp H
       obtain ⟨t106,A260,H⟩ := H
       replace H : (if (a0_3 ++ (⟨#[58,58]⟩ : ByteArray)).size + t106.size ≤ 9223372036854775807 then (some ((a0_3 ++ (⟨#[58,58]⟩ : ByteArray)) ++ t106)) else (none)) = some r := H
       have A26 := qq.mk A260
       clear A260
       by_cases c27 : (a0_3 ++ (⟨#[58,58]⟩ : ByteArray)).size + t106.size ≤ 9223372036854775807
       ·rw [if_pos c27] at H
        have c27b0 := eq_true c27
        have c27b1 : decide ((a0_3 ++ (⟨#[58,58]⟩ : ByteArray)).size + t106.size ≤ 9223372036854775807) = true := decide_eq_true c27
        try have c27b2 : (9223372036854775807 < (a0_3 ++ (⟨#[58,58]⟩ : ByteArray)).size + t106.size) = False := eq_false (Nat.not_lt.2 c27)
        try (have c27b9 := c27b2;simp only [ByteArray.size_append,show (⟨#[58,58]⟩ : ByteArray).size = 2 from rfl] at c27b9)
        obtain rfl := Option.some.inj H
        go_enter Tryz.func25,Tryz.ntmps25
        try go_wp2_with (first | ((with_reducible refine gate_dst (N := 1) rfl ?_);refine box_event ?hg (N := 1) ?hd (cs := #[.int .i64 a0_0,.int .i64 a0_1,.string a0_2,.string a0_3]) (t := 28) ?hr ?_;(case hd => rfl);(case hg => rfl);(case hr => first | (go_simp;done) | (go_simp;rfl));intro gb101 hg w28 hbox hb;have n0_ := qq.mk (zv (by repeat (first | (with_reducible first | exact HB.out | apply qj | apply qz | apply qk) | exact HB.out)) hb);have n1_ := qq.mk (hbox);have n2_ := qq.mk ((by rw [hg];exact (zw (by repeat (first | (with_reducible first | exact HB.out | apply qj | apply qz | apply qk) | exact HB.out))) : w.heap.size ≤ gb101));have n3_ := qq.mk ((by rw [hg];exact (zw (by repeat (first | (with_reducible first | exact HB.out | apply qj | apply qz | apply qk) | exact HB.out))) : w.heap.size ≤ gb101));clear HB;have HB := n0_;have BK101 := n1_;have GW101 := n2_;have GE101 := n3_;clear n0_ n1_ n2_ n3_;clear hb hbox hg;have hcz29_0 : w28.cell? ⟨gb101,0,none⟩ = some (.int .i64 a0_0) := (qw BK101.out 0).trans rfl;have hcz29_1 : w28.cell? ⟨gb101,1,none⟩ = some (.int .i64 a0_1) := (qw BK101.out 1).trans rfl;have hcz29_2 : w28.cell? ⟨gb101,2,none⟩ = some (.string a0_2) := (qw BK101.out 2).trans rfl;have hcz29_3 : w28.cell? ⟨gb101,3,none⟩ = some (.string a0_3) := (qw BK101.out 3).trans rfl;have hfz29_0 := qv BK101.out 0;have hfz29_1 := qv BK101.out 1;have hfz29_2 := qv BK101.out 2;have hfz29_3 := qv BK101.out 3) | ((with_reducible refine jv (f := 52) rfl ?_);refine goesL_ (some 10) rfl rfl Tryz.func52 (by kernel_rfl) rfl #[.agg #[.int .i64 a0_0,.int .i64 a0_1,.string a0_2,.string a0_3]] rfl (by (try simp only [List.map_toArray,List.map_cons,List.map_nil]);first | done | rfl | (simp only [List.length_drop,List.length_take];rfl)) ?_;(with_reducible refine (wz.calls k a0_0 a0_1 a0_2 a0_3 true _ A2.out).mono ?_);rintro e w30 ⟨rfl,hb⟩;refine ⟨_,rfl,?_⟩;have n0_ := qq.mk (kw (g := gb101) (o := .cells #[.int .i64 a0_0,.int .i64 a0_1,.string a0_2,.string a0_3] 28 (0,0)) (by (with_reducible repeat (first | refine zz ?_ _ | refine zj ?_ | refine zq ?_ _));exact BK101.out) hb);have n1_ := qq.mk (zv (by repeat (first | (with_reducible first | exact HB.out | apply qj | apply qz | apply qk | refine qx ?_ GE101.out) | exact HB.out)) hb);clear BK101;clear HB;have BK101 := n0_;have HB := n1_;clear n0_ n1_;(try clear hb);(try clear hb2);(try clear hk);(try clear hi);have hcz31_0 : w30.cell? ⟨gb101,0,none⟩ = some (.int .i64 a0_0) := (qw BK101.out 0).trans rfl;have hcz31_1 : w30.cell? ⟨gb101,1,none⟩ = some (.int .i64 a0_1) := (qw BK101.out 1).trans rfl;have hcz31_2 : w30.cell? ⟨gb101,2,none⟩ = some (.string a0_2) := (qw BK101.out 2).trans rfl;have hcz31_3 : w30.cell? ⟨gb101,3,none⟩ = some (.string a0_3) := (qw BK101.out 3).trans rfl;have hfz31_0 := qv BK101.out 0;have hfz31_1 := qv BK101.out 1;have hfz31_2 := qv BK101.out 2;have hfz31_3 := qv BK101.out 3))
        have n0_ := qq.mk (zj BK101.out)
        have n1_ := qq.mk (qk HB.out)
        clear BK101
        clear HB
        have BK101 := n0_
        have HB := n1_
        clear n0_ n1_
        refine start_ (n := 8) (S := fun w' => w'.cell? ⟨gb101,0,none⟩ = some (.int .i64 a0_0) ∧ w'.cell? ⟨gb101,1,none⟩ = some (.int .i64 a0_1) ∧ w'.cell? ⟨gb101,2,none⟩ = some (.string a0_2) ∧ w'.cell? ⟨gb101,3,none⟩ = some (.string a0_3)) (ds := []) #[false,false,false,false,false,false,false,false] (by kernel_rfl) rfl rfl ⟨(qw BK101.out 0).trans rfl,(qw BK101.out 1).trans rfl,(qw BK101.out 2).trans rfl,(qw BK101.out 3).trans rfl⟩ (fun hHeld => ?_);refine with_tabW vx.tab11 vx.bits11 (fun HT_ HW_ => ?_)
        generalize w30.drew = w32 at BK101 HB hHeld ⊢
        refine pure_ (i := 0) (N := some 32) (v := ?_) (a' := ?_) #[true,false,false,false,false,false,false,false] rfl rfl (any_of HT_.out (by kernel_rfl)) (fun _ _ _ h => h) (Or.inl ⟨by rfl,?_⟩) ?_ ?_
        rotate_left
        ·intro w'
         go_simp
         with_reducible rfl
        rotate_left
        ·simp only [Act.put,List.setIfInBounds_toArray,List.set_cons_zero,List.set_cons_succ,i64_w,i32_w]
         rfl
        refine pure_ (i := 3) (N := some 35) (v := ?_) (a' := ?_) #[true,false,false,true,false,false,false,false] rfl rfl (any_of HT_.out (by kernel_rfl)) (fun _ _ _ h => h) (Or.inl ⟨by rfl,?_⟩) ?_ ?_
        rotate_left
        ·intro w'
         go_simp
         with_reducible rfl
        rotate_left
        ·simp only [Act.put,List.setIfInBounds_toArray,List.set_cons_zero,List.set_cons_succ,i64_w,i32_w]
         rfl
        refine take_ (i := 1) (N := some 33) (v := ?_) (a' := ?_) #[true,true,false,true,false,false,false,false] rfl rfl (take_ofW HT_.out HW_.out (by kernel_rfl)) (fun _ _ _ h => h) (Or.inl ⟨by rfl,?_⟩) hHeld ?_ ?_
        rotate_left
        ·rintro w' ⟨s0,s1,s2,s3⟩
         go_simp
         with_reducible rfl
        rotate_left
        ·simp only [Act.put,List.setIfInBounds_toArray,List.set_cons_zero,List.set_cons_succ,i64_w,i32_w]
         rfl
        refine pure_ (i := 2) (N := some 34) (v := ?_) (a' := ?_) #[true,true,true,true,false,false,false,false] rfl rfl (any_of HT_.out (by kernel_rfl)) (fun _ _ _ h => h) (Or.inl ⟨by rfl,?_⟩) ?_ ?_
        rotate_left
        ·intro w'
         go_simp
         with_reducible rfl
        rotate_left
        ·simp only [Act.put,List.setIfInBounds_toArray,List.set_cons_zero,List.set_cons_succ,i64_w,i32_w]
         rfl
        refine take_ (i := 4) (N := some 36) (v := ?_) (a' := ?_) #[true,true,true,true,true,false,false,false] rfl rfl (take_ofW HT_.out HW_.out (by kernel_rfl)) (fun _ _ _ h => h) (Or.inl ⟨by rfl,?_⟩) hHeld ?_ ?_
        rotate_left
        ·rintro w' ⟨s0,s1,s2,s3⟩
         go_simp
         with_reducible rfl
        rotate_left
        ·simp only [Act.put,List.setIfInBounds_toArray,List.set_cons_zero,List.set_cons_succ,i64_w,i32_w]
         rfl
        refine one_ (i := 5) (N := some 37) #[true,true,true,true,true,true,false,false] rfl rfl (one_of HT_.out (by kernel_rfl)) (by decide) (fun K hK => ?_)
        refine goes_ Tryz.func56 (by kernel_rfl) rfl #[.string a0_2] (by rfl) rfl rfl (by (try simp only [List.map_toArray,List.map_cons,List.map_nil]);first | done | rfl | (simp only [List.length_drop,List.length_take];rfl)) ?_
        with_reducible refine (xw.calls a0_2 t106 _ A26.out).mono ?_
        rintro e w33 ⟨rfl,hb⟩
        refine ⟨_,rfl,?_⟩
        have n0_ := qq.mk (kw (g := gb101) (o := .cells #[.int .i64 a0_0,.int .i64 a0_1,.string a0_2,.string a0_3] 28 (0,0)) (by (with_reducible repeat (first | refine zz ?_ _ | refine zj ?_ | refine zq ?_ _));exact BK101.out) hb)
        have n1_ := qq.mk (zv (by repeat (first | (with_reducible first | exact HB.out | apply qj | apply qz | apply qk | refine qx ?_ GE101.out) | exact HB.out)) hb)
        clear BK101
        clear HB
        have BK101 := n0_
        have HB := n1_
        clear n0_ n1_
        (try clear hb)
        (try clear hb2)
        (try clear hk)
        (try clear hi)
        refine hK.out _ _ ⟨(qw BK101.out 0).trans rfl,(qw BK101.out 1).trans rfl,(qw BK101.out 2).trans rfl,(qw BK101.out 3).trans rfl⟩ (fun hHeld => ?_)
        clear hK K
        refine norm_ (a' := ?_) ?_ ?_
        rotate_left
        ·show Act.put _ (some 37) _ = _
         simp only [Act.put,List.setIfInBounds_toArray,List.set_cons_zero,List.set_cons_succ,i64_w,i32_w]
         rfl
        refine pure_ (i := 6) (N := some 38) (v := ?_) (a' := ?_) #[true,true,true,true,true,true,true,false] rfl rfl (any_of HT_.out (by kernel_rfl)) (fun _ _ _ h => h) (Or.inl ⟨by rfl,?_⟩) ?_ ?_
        rotate_left
        ·intro w'
         go_simp
         with_reducible rfl
        rotate_left
        ·simp only [Act.put,List.setIfInBounds_toArray,List.set_cons_zero,List.set_cons_succ,i64_w,i32_w]
         rfl
        refine pure_ (i := 7) (N := some 2) (v := ?_) (a' := ?_) #[true,true,true,true,true,true,true,true] rfl rfl (any_of HT_.out (by kernel_rfl)) (fun _ _ _ h => h) (Or.inl ⟨by rfl,?_⟩) ?_ ?_
        rotate_left
        ·intro w'
         go_simp
         with_reducible rfl
        rotate_left
        ·simp only [Act.put,List.setIfInBounds_toArray,List.set_cons_zero,List.set_cons_succ,i64_w,i32_w]
         rfl
        refine done_ (done_of HT_.out (by kernel_rfl)) ?_
        try go_wp2
        go_ret
        exact ⟨by first | rfl | (simp [*,jk,jj] <;> rfl),by repeat (first | (with_reducible first | exact HB.out | apply qj | apply qz | apply qk | refine qx ?_ GE101.out) | exact HB.out)⟩
       ·rw [if_neg c27] at H
        exact absurd H (by simp)
      ·rw [if_neg c25] at H
       exact absurd H (by simp)
     ·rw [if_neg c24] at H
      have c24b0 : (a0_0 == 4) = false := beq_eq_false_iff_ne.mpr c24
      have c24b1 : (a0_0 != 4) = true := bne_iff_ne.mpr c24
      by_cases c34 : a0_0 = 5
      ·rw [if_pos c34] at H
       have c34b0 : (a0_0 == 5) = true := beq_iff_eq.mpr c34
       have c34b1 : (a0_0 != 5) = false := bne_eq_false_iff_eq.mpr c34
       clear c34
       by_cases c35 : a0_1 < 0
       ·rw [if_pos c35] at H
        have c35b0 : decide (a0_1 < 0) = true := decide_eq_true c35
        clear c35
        replace H := Option.bind_eq_some_iff.mp H
        obtain ⟨t107,A360,H⟩ := H
        replace H : ((qwj.f (IntKind.u64.wrap (Int.tdiv (IntKind.u64.wrap (-(IntKind.u64.wrap (a0_1)))) 10000)) 10).bind fun t108 => (if 1 + t108.size ≤ 9223372036854775807 then (if ((⟨#[45]⟩ : ByteArray) ++ t108).size + 1 ≤ 9223372036854775807 then (if 1 ≤ (t107.size : Int) then (if (((⟨#[45]⟩ : ByteArray) ++ t108) ++ (⟨#[46]⟩ : ByteArray)).size + (t107.extract 1 t107.size).size ≤ 9223372036854775807 then (some ((((⟨#[45]⟩ : ByteArray) ++ t108) ++ (⟨#[46]⟩ : ByteArray)) ++ (t107.extract 1 t107.size))) else (none)) else (none)) else (none)) else (none))) = some r := H
        have A36 := qq.mk A360
        clear A360
        replace H := Option.bind_eq_some_iff.mp H
        obtain ⟨t108,A370,H⟩ := H
        replace H : (if 1 + t108.size ≤ 9223372036854775807 then (if ((⟨#[45]⟩ : ByteArray) ++ t108).size + 1 ≤ 9223372036854775807 then (if 1 ≤ (t107.size : Int) then (if (((⟨#[45]⟩ : ByteArray) ++ t108) ++ (⟨#[46]⟩ : ByteArray)).size + (t107.extract 1 t107.size).size ≤ 9223372036854775807 then (some ((((⟨#[45]⟩ : ByteArray) ++ t108) ++ (⟨#[46]⟩ : ByteArray)) ++ (t107.extract 1 t107.size))) else (none)) else (none)) else (none)) else (none)) = some r := H
        have A37 := qq.mk A370
        clear A370
        by_cases c38 : 1 + t108.size ≤ 9223372036854775807
        ·rw [if_pos c38] at H
         have c38b0 := eq_true c38
         have c38b1 : decide (1 + t108.size ≤ 9223372036854775807) = true := decide_eq_true c38
         try have c38b2 : (9223372036854775807 < 1 + t108.size) = False := eq_false (Nat.not_lt.2 c38)
         by_cases c39 : ((⟨#[45]⟩ : ByteArray) ++ t108).size + 1 ≤ 9223372036854775807
         ·rw [if_pos c39] at H
          have c39b0 := eq_true c39
          have c39b1 : decide (((⟨#[45]⟩ : ByteArray) ++ t108).size + 1 ≤ 9223372036854775807) = true := decide_eq_true c39
          try have c39b2 : (9223372036854775807 < ((⟨#[45]⟩ : ByteArray) ++ t108).size + 1) = False := eq_false (Nat.not_lt.2 c39)
          try (have c39b9 := c39b2;simp only [ByteArray.size_append,show (⟨#[45]⟩ : ByteArray).size = 1 from rfl] at c39b9)
          by_cases c40 : 1 ≤ (t107.size : Int)
          ·rw [if_pos c40] at H
           have c40b0 := eq_true c40
           have c40b1 : decide (1 ≤ (t107.size : Int)) = true := decide_eq_true c40
           clear c40
           by_cases c41 : (((⟨#[45]⟩ : ByteArray) ++ t108) ++ (⟨#[46]⟩ : ByteArray)).size + (t107.extract 1 t107.size).size ≤ 9223372036854775807
           ·rw [if_pos c41] at H
            have c41b0 := eq_true c41
            have c41b1 : decide ((((⟨#[45]⟩ : ByteArray) ++ t108) ++ (⟨#[46]⟩ : ByteArray)).size + (t107.extract 1 t107.size).size ≤ 9223372036854775807) = true := decide_eq_true c41
            try have c41b2 : (9223372036854775807 < (((⟨#[45]⟩ : ByteArray) ++ t108) ++ (⟨#[46]⟩ : ByteArray)).size + (t107.extract 1 t107.size).size) = False := eq_false (Nat.not_lt.2 c41)
            have c41b5 : (9223372036854775807 < 1 + t108.size + 1 + (t107.size - 1)) = False := eq_false (by
             have e_ := c41
             simp only [ByteArray.size_append,ByteArray.size_extract,Nat.min_self,Nat.zero_add,show (⟨#[]⟩ : ByteArray).size = 0 from rfl,show (⟨#[45]⟩ : ByteArray).size = 1 from rfl,show (⟨#[46]⟩ : ByteArray).size = 1 from rfl] at e_
             exact Nat.not_lt.2 e_)
            try (have c41b9 := c41b2;simp only [ByteArray.size_append,show (⟨#[45]⟩ : ByteArray).size = 1 from rfl,show (⟨#[46]⟩ : ByteArray).size = 1 from rfl] at c41b9)
            obtain rfl := Option.some.inj H
            go_enter Tryz.func25,Tryz.ntmps25
            try go_wp2_with (first | ((with_reducible refine gate_dst (N := 1) rfl ?_);refine box_event ?hg (N := 1) ?hd (cs := #[.int .i64 a0_0,.int .i64 a0_1,.string a0_2,.string a0_3]) (t := 28) ?hr ?_;(case hd => rfl);(case hg => rfl);(case hr => first | (go_simp;done) | (go_simp;rfl));intro gb101 hg w42 hbox hb;have n0_ := qq.mk (zv (by repeat (first | (with_reducible first | exact HB.out | apply qj | apply qz | apply qk) | exact HB.out)) hb);have n1_ := qq.mk (hbox);have n2_ := qq.mk ((by rw [hg];exact (zw (by repeat (first | (with_reducible first | exact HB.out | apply qj | apply qz | apply qk) | exact HB.out))) : w.heap.size ≤ gb101));have n3_ := qq.mk ((by rw [hg];exact (zw (by repeat (first | (with_reducible first | exact HB.out | apply qj | apply qz | apply qk) | exact HB.out))) : w.heap.size ≤ gb101));clear HB;have HB := n0_;have BK101 := n1_;have GW101 := n2_;have GE101 := n3_;clear n0_ n1_ n2_ n3_;clear hb hbox hg;have hcz43_0 : w42.cell? ⟨gb101,0,none⟩ = some (.int .i64 a0_0) := (qw BK101.out 0).trans rfl;have hcz43_1 : w42.cell? ⟨gb101,1,none⟩ = some (.int .i64 a0_1) := (qw BK101.out 1).trans rfl;have hcz43_2 : w42.cell? ⟨gb101,2,none⟩ = some (.string a0_2) := (qw BK101.out 2).trans rfl;have hcz43_3 : w42.cell? ⟨gb101,3,none⟩ = some (.string a0_3) := (qw BK101.out 3).trans rfl;have hfz43_0 := qv BK101.out 0;have hfz43_1 := qv BK101.out 1;have hfz43_2 := qv BK101.out 2;have hfz43_3 := qv BK101.out 3) | ((with_reducible refine jv (f := 52) rfl ?_);refine goesL_ (some 10) rfl rfl Tryz.func52 (by kernel_rfl) rfl #[.agg #[.int .i64 a0_0,.int .i64 a0_1,.string a0_2,.string a0_3]] rfl (by (try simp only [List.map_toArray,List.map_cons,List.map_nil]);first | done | rfl | (simp only [List.length_drop,List.length_take];rfl)) ?_;(with_reducible refine (wz.calls k a0_0 a0_1 a0_2 a0_3 true _ A2.out).mono ?_);rintro e w44 ⟨rfl,hb⟩;refine ⟨_,rfl,?_⟩;have n0_ := qq.mk (kw (g := gb101) (o := .cells #[.int .i64 a0_0,.int .i64 a0_1,.string a0_2,.string a0_3] 28 (0,0)) (by (with_reducible repeat (first | refine zz ?_ _ | refine zj ?_ | refine zq ?_ _));exact BK101.out) hb);have n1_ := qq.mk (zv (by repeat (first | (with_reducible first | exact HB.out | apply qj | apply qz | apply qk | refine qx ?_ GE101.out) | exact HB.out)) hb);clear BK101;clear HB;have BK101 := n0_;have HB := n1_;clear n0_ n1_;(try clear hb);(try clear hb2);(try clear hk);(try clear hi);have hcz45_0 : w44.cell? ⟨gb101,0,none⟩ = some (.int .i64 a0_0) := (qw BK101.out 0).trans rfl;have hcz45_1 : w44.cell? ⟨gb101,1,none⟩ = some (.int .i64 a0_1) := (qw BK101.out 1).trans rfl;have hcz45_2 : w44.cell? ⟨gb101,2,none⟩ = some (.string a0_2) := (qw BK101.out 2).trans rfl;have hcz45_3 : w44.cell? ⟨gb101,3,none⟩ = some (.string a0_3) := (qw BK101.out 3).trans rfl;have hfz45_0 := qv BK101.out 0;have hfz45_1 := qv BK101.out 1;have hfz45_2 := qv BK101.out 2;have hfz45_3 := qv BK101.out 3))
            have n0_ := qq.mk (zj BK101.out)
            have n1_ := qq.mk (qk HB.out)
            clear BK101
            clear HB
            have BK101 := n0_
            have HB := n1_
            clear n0_ n1_
            refine start_ (n := 5) (S := fun w' => w'.cell? ⟨gb101,0,none⟩ = some (.int .i64 a0_0) ∧ w'.cell? ⟨gb101,1,none⟩ = some (.int .i64 a0_1) ∧ w'.cell? ⟨gb101,2,none⟩ = some (.string a0_2) ∧ w'.cell? ⟨gb101,3,none⟩ = some (.string a0_3)) (ds := []) #[false,false,false,false,false] (by kernel_rfl) rfl rfl ⟨(qw BK101.out 0).trans rfl,(qw BK101.out 1).trans rfl,(qw BK101.out 2).trans rfl,(qw BK101.out 3).trans rfl⟩ (fun hHeld => ?_)
            generalize w44.drew = w46 at BK101 HB hHeld ⊢
            refine pure_ (i := 0) (N := some 41) (v := ?_) (a' := ?_) #[true,false,false,false,false] rfl rfl (by kernel_rfl) (fun _ _ _ h => h) (Or.inl ⟨by rfl,?_⟩) ?_ ?_
            rotate_left
            ·intro w'
             go_simp
             with_reducible rfl
            rotate_left
            ·simp only [Act.put,List.setIfInBounds_toArray,List.set_cons_zero,List.set_cons_succ,i64_w,i32_w]
             rfl
            refine pure_ (i := 3) (N := some 3) (v := ?_) (a' := ?_) #[true,false,false,true,false] rfl rfl (by kernel_rfl) (fun _ _ _ h => h) (Or.inl ⟨by rfl,?_⟩) ?_ ?_
            rotate_left
            ·intro w'
             go_simp
             with_reducible rfl
            rotate_left
            ·simp only [Act.put,List.setIfInBounds_toArray,List.set_cons_zero,List.set_cons_succ,i64_w,i32_w]
             rfl
            refine take_ (i := 1) (N := some 42) (v := ?_) (a' := ?_) #[true,true,false,true,false] rfl rfl (by kernel_rfl) (fun _ _ _ h => h) (Or.inl ⟨by rfl,?_⟩) hHeld ?_ ?_
            rotate_left
            ·rintro w' ⟨s0,s1,s2,s3⟩
             go_simp
             with_reducible rfl
            rotate_left
            ·simp only [Act.put,List.setIfInBounds_toArray,List.set_cons_zero,List.set_cons_succ,i64_w,i32_w]
             rfl
            refine pure_ (i := 2) (N := some 43) (v := ?_) (a' := ?_) #[true,true,true,true,false] rfl rfl (by kernel_rfl) (fun _ _ _ h => h) (Or.inl ⟨by rfl,?_⟩) ?_ ?_
            rotate_left
            ·intro w'
             go_simp
             with_reducible rfl
            rotate_left
            ·simp only [Act.put,List.setIfInBounds_toArray,List.set_cons_zero,List.set_cons_succ,i64_w,i32_w]
             rfl
            refine pure_ (i := 4) (N := some 4) (v := ?_) (a' := ?_) #[true,true,true,true,true] rfl rfl (by kernel_rfl) (fun _ _ _ h => h) (Or.inl ⟨by rfl,?_⟩) ?_ ?_
            rotate_left
            ·intro w'
             go_simp
             with_reducible rfl
            rotate_left
            ·simp only [Act.put,List.setIfInBounds_toArray,List.set_cons_zero,List.set_cons_succ,i64_w,i32_w]
             rfl
            refine done_ (by kernel_rfl) ?_
            have hcz47_0 : w46.cell? ⟨gb101,0,none⟩ = some (.int .i64 a0_0) := (qw BK101.out 0).trans rfl
            have hcz47_1 : w46.cell? ⟨gb101,1,none⟩ = some (.int .i64 a0_1) := (qw BK101.out 1).trans rfl
            have hcz47_2 : w46.cell? ⟨gb101,2,none⟩ = some (.string a0_2) := (qw BK101.out 2).trans rfl
            have hcz47_3 : w46.cell? ⟨gb101,3,none⟩ = some (.string a0_3) := (qw BK101.out 3).trans rfl
            have hfz47_0 := qv BK101.out 0
            have hfz47_1 := qv BK101.out 1
            have hfz47_2 := qv BK101.out 2
            have hfz47_3 := qv BK101.out 3
            try go_wp2_with (first | ((with_reducible refine jv (f := 57) rfl ?_);refine goesL_ (some 52) rfl rfl Tryz.func57 (by kernel_rfl) rfl #[.int .u64 (IntKind.u64.wrap ((Int.tmod (IntKind.u64.wrap (-(IntKind.u64.wrap (a0_1)))) 10000) + 10000)),.int .i64 10] rfl (by (try simp only [List.map_toArray,List.map_cons,List.map_nil]);first | done | rfl | (simp only [List.length_drop,List.length_take];rfl)) ?_;(with_reducible refine (qwj.calls (IntKind.u64.wrap ((Int.tmod (IntKind.u64.wrap (-(IntKind.u64.wrap (a0_1)))) 10000) + 10000)) 10 t107 _ ?tabw A36.out).mono ?_);(case tabw => repeat (first | exact HTAB.out | exact TabW_below HTAB.out HB.out | exact TabW_below HTAB.out (by repeat (first | exact HB.out | apply qj | apply qz | apply qk | refine qx ?_ GE101.out)) | (with_reducible refine TabW_drewN ?_ _) | (with_reducible refine TabW_drew ?_) | (with_reducible refine TabW_alloc ?_ _)));rintro e w48 ⟨rfl,hb⟩;refine ⟨_,rfl,?_⟩;have n0_ := qq.mk (kw (g := gb101) (o := .cells #[.int .i64 a0_0,.int .i64 a0_1,.string a0_2,.string a0_3] 28 (0,0)) (by (with_reducible repeat (first | refine zz ?_ _ | refine zj ?_ | refine zq ?_ _));exact BK101.out) hb);have n1_ := qq.mk (zv (by repeat (first | (with_reducible first | exact HB.out | apply qj | apply qz | apply qk | refine qx ?_ GE101.out) | exact HB.out)) hb);clear BK101;clear HB;have BK101 := n0_;have HB := n1_;clear n0_ n1_;(try clear hb);(try clear hb2);(try clear hk);(try clear hi)))
            have n0_ := qq.mk (zj BK101.out)
            have n1_ := qq.mk (qk HB.out)
            clear BK101
            clear HB
            have BK101 := n0_
            have HB := n1_
            clear n0_ n1_
            refine start_ (n := 10) (S := fun w' => True) (ds := []) #[false,false,false,false,false,false,false,false,false,false] (by kernel_rfl) rfl rfl trivial (fun hHeld => ?_);refine with_tabW vx.tab17 vx.bits17 (fun HT_ HW_ => ?_)
            generalize w48.drew = w49 at BK101 HB hHeld ⊢
            refine pure_ (i := 0) (N := some 53) (v := ?_) (a' := ?_) #[true,false,false,false,false,false,false,false,false,false] rfl rfl (any_of HT_.out (by kernel_rfl)) (fun _ _ _ h => h) (Or.inl ⟨by rfl,?_⟩) ?_ ?_
            rotate_left
            ·intro w'
             go_simp
             with_reducible rfl
            rotate_left
            ·simp only [Act.put,List.setIfInBounds_toArray,List.set_cons_zero,List.set_cons_succ,i64_w,i32_w]
             rfl
            refine pure_ (i := 1) (N := some 54) (v := ?_) (a' := ?_) #[true,true,false,false,false,false,false,false,false,false] rfl rfl (any_of HT_.out (by kernel_rfl)) (fun _ _ _ h => h) (Or.inl ⟨by rfl,?_⟩) ?_ ?_
            rotate_left
            ·intro w'
             go_simp
             with_reducible rfl
            rotate_left
            ·simp only [Act.put,List.setIfInBounds_toArray,List.set_cons_zero,List.set_cons_succ,i64_w,i32_w]
             rfl
            refine pure_ (i := 2) (N := some 55) (v := ?_) (a' := ?_) #[true,true,true,false,false,false,false,false,false,false] rfl rfl (any_of HT_.out (by kernel_rfl)) (fun _ _ _ h => h) (Or.inl ⟨by rfl,?_⟩) ?_ ?_
            rotate_left
            ·intro w'
             go_simp
             with_reducible rfl
            rotate_left
            ·simp only [Act.put,List.setIfInBounds_toArray,List.set_cons_zero,List.set_cons_succ,i64_w,i32_w]
             rfl
            refine pure_ (i := 6) (N := some 59) (v := ?_) (a' := ?_) #[true,true,true,false,false,false,true,false,false,false] rfl rfl (any_of HT_.out (by kernel_rfl)) (fun _ _ _ h => h) (Or.inl ⟨by rfl,?_⟩) ?_ ?_
            rotate_left
            ·intro w'
             go_simp
             with_reducible rfl
            rotate_left
            ·simp only [Act.put,List.setIfInBounds_toArray,List.set_cons_zero,List.set_cons_succ,i64_w,i32_w]
             rfl
            refine pure_ (i := 7) (N := some 60) (v := ?_) (a' := ?_) #[true,true,true,false,false,false,true,true,false,false] rfl rfl (any_of HT_.out (by kernel_rfl)) (fun _ _ _ h => h) (Or.inl ⟨by rfl,?_⟩) ?_ ?_
            rotate_left
            ·intro w'
             go_simp
             with_reducible rfl
            rotate_left
            ·simp only [Act.put,List.setIfInBounds_toArray,List.set_cons_zero,List.set_cons_succ,i64_w,i32_w]
             rfl
            refine one_ (i := 3) (N := some 56) #[true,true,true,true,false,false,true,true,false,false] rfl rfl (one_of HT_.out (by kernel_rfl)) (by decide) (fun K hK => ?_)
            refine goes_ Tryz.func57 (by kernel_rfl) rfl #[.int .u64 (IntKind.u64.wrap (Int.tdiv (IntKind.u64.wrap (-(IntKind.u64.wrap (a0_1)))) 10000)),.int .i64 10] (by rfl) rfl rfl (by (try simp only [List.map_toArray,List.map_cons,List.map_nil]);first | done | rfl | (simp only [List.length_drop,List.length_take];rfl)) ?_
            with_reducible refine (qwj.calls (IntKind.u64.wrap (Int.tdiv (IntKind.u64.wrap (-(IntKind.u64.wrap (a0_1)))) 10000)) 10 t108 _ ?tabw A37.out).mono ?_
            (case tabw => repeat (first | exact HTAB.out | exact TabW_below HTAB.out HB.out | (with_reducible refine TabW_drewN ?_ _) | (with_reducible refine TabW_drew ?_) | (with_reducible refine TabW_alloc ?_ _)))
            rintro e w50 ⟨rfl,hb⟩
            refine ⟨_,rfl,?_⟩
            have n0_ := qq.mk (kw (g := gb101) (o := .cells #[.int .i64 a0_0,.int .i64 a0_1,.string a0_2,.string a0_3] 28 (0,0)) (by (with_reducible repeat (first | refine zz ?_ _ | refine zj ?_ | refine zq ?_ _));exact BK101.out) hb)
            have n1_ := qq.mk (zv (by repeat (first | (with_reducible first | exact HB.out | apply qj | apply qz | apply qk | refine qx ?_ GE101.out) | exact HB.out)) hb)
            clear BK101
            clear HB
            have BK101 := n0_
            have HB := n1_
            clear n0_ n1_
            (try clear hb)
            (try clear hb2)
            (try clear hk)
            (try clear hi)
            refine hK.out _ _ trivial (fun hHeld => ?_)
            clear hK K
            refine norm_ (a' := ?_) ?_ ?_
            rotate_left
            ·show Act.put _ (some 56) _ = _
             simp only [Act.put,List.setIfInBounds_toArray,List.set_cons_zero,List.set_cons_succ,i64_w,i32_w]
             rfl
            refine pure_ (i := 4) (N := some 57) (v := ?_) (a' := ?_) #[true,true,true,true,true,false,true,true,false,false] rfl rfl (any_of HT_.out (by kernel_rfl)) (fun _ _ _ h => h) (Or.inl ⟨by rfl,?_⟩) ?_ ?_
            rotate_left
            ·intro w'
             go_simp
             with_reducible rfl
            rotate_left
            ·simp only [Act.put,List.setIfInBounds_toArray,List.set_cons_zero,List.set_cons_succ,i64_w,i32_w]
             rfl
            refine pure_ (i := 5) (N := some 58) (v := ?_) (a' := ?_) #[true,true,true,true,true,true,true,true,false,false] rfl rfl (any_of HT_.out (by kernel_rfl)) (fun _ _ _ h => h) (Or.inl ⟨by rfl,?_⟩) ?_ ?_
            rotate_left
            ·intro w'
             go_simp
             with_reducible rfl
            rotate_left
            ·simp only [Act.put,List.setIfInBounds_toArray,List.set_cons_zero,List.set_cons_succ,i64_w,i32_w]
             rfl
            refine pure_ (i := 8) (N := some 61) (v := ?_) (a' := ?_) #[true,true,true,true,true,true,true,true,true,false] rfl rfl (any_of HT_.out (by kernel_rfl)) (fun _ _ _ h => h) (Or.inl ⟨by rfl,?_⟩) ?_ ?_
            rotate_left
            ·intro w'
             go_simp
             with_reducible rfl
            rotate_left
            ·simp only [Act.put,List.setIfInBounds_toArray,List.set_cons_zero,List.set_cons_succ,i64_w,i32_w]
             rfl
            refine pure_ (i := 9) (N := some 2) (v := ?_) (a' := ?_) #[true,true,true,true,true,true,true,true,true,true] rfl rfl (any_of HT_.out (by kernel_rfl)) (fun _ _ _ h => h) (Or.inl ⟨by rfl,?_⟩) ?_ ?_
            rotate_left
            ·intro w'
             go_simp
             with_reducible rfl
            rotate_left
            ·simp only [Act.put,List.setIfInBounds_toArray,List.set_cons_zero,List.set_cons_succ,i64_w,i32_w]
             rfl
            refine done_ (done_of HT_.out (by kernel_rfl)) ?_
            try go_wp2
            go_ret
            exact ⟨by first | rfl | (simp [*,jk,jj] <;> rfl),by repeat (first | (with_reducible first | exact HB.out | apply qj | apply qz | apply qk | refine qx ?_ GE101.out) | exact HB.out)⟩
           ·rw [if_neg c41] at H
            exact absurd H (by simp)
          ·rw [if_neg c40] at H
           exact absurd H (by simp)
         ·rw [if_neg c39] at H
          exact absurd H (by simp)
        ·rw [if_neg c38] at H
         exact absurd H (by simp)
       ·rw [if_neg c35] at H
        have c35b0 : decide (a0_1 < 0) = false := decide_eq_false c35
        clear c35
        replace H := Option.bind_eq_some_iff.mp H
        obtain ⟨t109,A510,H⟩ := H
        replace H : ((qwj.f (IntKind.u64.wrap (Int.tdiv (IntKind.u64.wrap (a0_1)) 10000)) 10).bind fun t110 => (if 0 + t110.size ≤ 9223372036854775807 then (if ((⟨#[]⟩ : ByteArray) ++ t110).size + 1 ≤ 9223372036854775807 then (if 1 ≤ (t109.size : Int) then (if (((⟨#[]⟩ : ByteArray) ++ t110) ++ (⟨#[46]⟩ : ByteArray)).size + (t109.extract 1 t109.size).size ≤ 9223372036854775807 then (some ((((⟨#[]⟩ : ByteArray) ++ t110) ++ (⟨#[46]⟩ : ByteArray)) ++ (t109.extract 1 t109.size))) else (none)) else (none)) else (none)) else (none))) = some r := H
        have A51 := qq.mk A510
        clear A510
        replace H := Option.bind_eq_some_iff.mp H
        obtain ⟨t110,A520,H⟩ := H
        replace H : (if 0 + t110.size ≤ 9223372036854775807 then (if ((⟨#[]⟩ : ByteArray) ++ t110).size + 1 ≤ 9223372036854775807 then (if 1 ≤ (t109.size : Int) then (if (((⟨#[]⟩ : ByteArray) ++ t110) ++ (⟨#[46]⟩ : ByteArray)).size + (t109.extract 1 t109.size).size ≤ 9223372036854775807 then (some ((((⟨#[]⟩ : ByteArray) ++ t110) ++ (⟨#[46]⟩ : ByteArray)) ++ (t109.extract 1 t109.size))) else (none)) else (none)) else (none)) else (none)) = some r := H
        have A52 := qq.mk A520
        clear A520
        by_cases c53 : 0 + t110.size ≤ 9223372036854775807
        ·rw [if_pos c53] at H
         have c53b0 := eq_true c53
         have c53b1 : decide (0 + t110.size ≤ 9223372036854775807) = true := decide_eq_true c53
         try have c53b2 : (9223372036854775807 < 0 + t110.size) = False := eq_false (Nat.not_lt.2 c53)
         have c53b5 : (9223372036854775807 < t110.size) = False := eq_false (by
          have e_ := c53
          simp only [ByteArray.size_append,ByteArray.size_extract,Nat.min_self,Nat.zero_add,show (⟨#[]⟩ : ByteArray).size = 0 from rfl,show (⟨#[45]⟩ : ByteArray).size = 1 from rfl,show (⟨#[46]⟩ : ByteArray).size = 1 from rfl] at e_
          exact Nat.not_lt.2 e_)
         by_cases c54 : ((⟨#[]⟩ : ByteArray) ++ t110).size + 1 ≤ 9223372036854775807
         ·rw [if_pos c54] at H
          have c54b0 := eq_true c54
          have c54b1 : decide (((⟨#[]⟩ : ByteArray) ++ t110).size + 1 ≤ 9223372036854775807) = true := decide_eq_true c54
          try have c54b2 : (9223372036854775807 < ((⟨#[]⟩ : ByteArray) ++ t110).size + 1) = False := eq_false (Nat.not_lt.2 c54)
          have c54b5 : (9223372036854775807 < t110.size + 1) = False := eq_false (by
           have e_ := c54
           simp only [ByteArray.size_append,ByteArray.size_extract,Nat.min_self,Nat.zero_add,show (⟨#[]⟩ : ByteArray).size = 0 from rfl,show (⟨#[45]⟩ : ByteArray).size = 1 from rfl,show (⟨#[46]⟩ : ByteArray).size = 1 from rfl] at e_
           exact Nat.not_lt.2 e_)
          try (have c54b9 := c54b2;simp only [ByteArray.size_append,show (⟨#[]⟩ : ByteArray).size = 0 from rfl] at c54b9)
          by_cases c55 : 1 ≤ (t109.size : Int)
          ·rw [if_pos c55] at H
           have c55b0 := eq_true c55
           have c55b1 : decide (1 ≤ (t109.size : Int)) = true := decide_eq_true c55
           clear c55
           by_cases c56 : (((⟨#[]⟩ : ByteArray) ++ t110) ++ (⟨#[46]⟩ : ByteArray)).size + (t109.extract 1 t109.size).size ≤ 9223372036854775807
           ·rw [if_pos c56] at H
            have c56b0 := eq_true c56
            have c56b1 : decide ((((⟨#[]⟩ : ByteArray) ++ t110) ++ (⟨#[46]⟩ : ByteArray)).size + (t109.extract 1 t109.size).size ≤ 9223372036854775807) = true := decide_eq_true c56
            try have c56b2 : (9223372036854775807 < (((⟨#[]⟩ : ByteArray) ++ t110) ++ (⟨#[46]⟩ : ByteArray)).size + (t109.extract 1 t109.size).size) = False := eq_false (Nat.not_lt.2 c56)
            have c56b5 : (9223372036854775807 < t110.size + 1 + (t109.size - 1)) = False := eq_false (by
             have e_ := c56
             simp only [ByteArray.size_append,ByteArray.size_extract,Nat.min_self,Nat.zero_add,show (⟨#[]⟩ : ByteArray).size = 0 from rfl,show (⟨#[45]⟩ : ByteArray).size = 1 from rfl,show (⟨#[46]⟩ : ByteArray).size = 1 from rfl] at e_
             exact Nat.not_lt.2 e_)
            try (have c56b9 := c56b2;simp only [ByteArray.size_append,show (⟨#[]⟩ : ByteArray).size = 0 from rfl,show (⟨#[46]⟩ : ByteArray).size = 1 from rfl] at c56b9)
            obtain rfl := Option.some.inj H
            go_enter Tryz.func25,Tryz.ntmps25
            try go_wp2_with (first | ((with_reducible refine gate_dst (N := 1) rfl ?_);refine box_event ?hg (N := 1) ?hd (cs := #[.int .i64 a0_0,.int .i64 a0_1,.string a0_2,.string a0_3]) (t := 28) ?hr ?_;(case hd => rfl);(case hg => rfl);(case hr => first | (go_simp;done) | (go_simp;rfl));intro gb101 hg w57 hbox hb;have n0_ := qq.mk (zv (by repeat (first | (with_reducible first | exact HB.out | apply qj | apply qz | apply qk) | exact HB.out)) hb);have n1_ := qq.mk (hbox);have n2_ := qq.mk ((by rw [hg];exact (zw (by repeat (first | (with_reducible first | exact HB.out | apply qj | apply qz | apply qk) | exact HB.out))) : w.heap.size ≤ gb101));have n3_ := qq.mk ((by rw [hg];exact (zw (by repeat (first | (with_reducible first | exact HB.out | apply qj | apply qz | apply qk) | exact HB.out))) : w.heap.size ≤ gb101));clear HB;have HB := n0_;have BK101 := n1_;have GW101 := n2_;have GE101 := n3_;clear n0_ n1_ n2_ n3_;clear hb hbox hg;have hcz58_0 : w57.cell? ⟨gb101,0,none⟩ = some (.int .i64 a0_0) := (qw BK101.out 0).trans rfl;have hcz58_1 : w57.cell? ⟨gb101,1,none⟩ = some (.int .i64 a0_1) := (qw BK101.out 1).trans rfl;have hcz58_2 : w57.cell? ⟨gb101,2,none⟩ = some (.string a0_2) := (qw BK101.out 2).trans rfl;have hcz58_3 : w57.cell? ⟨gb101,3,none⟩ = some (.string a0_3) := (qw BK101.out 3).trans rfl;have hfz58_0 := qv BK101.out 0;have hfz58_1 := qv BK101.out 1;have hfz58_2 := qv BK101.out 2;have hfz58_3 := qv BK101.out 3) | ((with_reducible refine jv (f := 52) rfl ?_);refine goesL_ (some 10) rfl rfl Tryz.func52 (by kernel_rfl) rfl #[.agg #[.int .i64 a0_0,.int .i64 a0_1,.string a0_2,.string a0_3]] rfl (by (try simp only [List.map_toArray,List.map_cons,List.map_nil]);first | done | rfl | (simp only [List.length_drop,List.length_take];rfl)) ?_;(with_reducible refine (wz.calls k a0_0 a0_1 a0_2 a0_3 true _ A2.out).mono ?_);rintro e w59 ⟨rfl,hb⟩;refine ⟨_,rfl,?_⟩;have n0_ := qq.mk (kw (g := gb101) (o := .cells #[.int .i64 a0_0,.int .i64 a0_1,.string a0_2,.string a0_3] 28 (0,0)) (by (with_reducible repeat (first | refine zz ?_ _ | refine zj ?_ | refine zq ?_ _));exact BK101.out) hb);have n1_ := qq.mk (zv (by repeat (first | (with_reducible first | exact HB.out | apply qj | apply qz | apply qk | refine qx ?_ GE101.out) | exact HB.out)) hb);clear BK101;clear HB;have BK101 := n0_;have HB := n1_;clear n0_ n1_;(try clear hb);(try clear hb2);(try clear hk);(try clear hi);have hcz60_0 : w59.cell? ⟨gb101,0,none⟩ = some (.int .i64 a0_0) := (qw BK101.out 0).trans rfl;have hcz60_1 : w59.cell? ⟨gb101,1,none⟩ = some (.int .i64 a0_1) := (qw BK101.out 1).trans rfl;have hcz60_2 : w59.cell? ⟨gb101,2,none⟩ = some (.string a0_2) := (qw BK101.out 2).trans rfl;have hcz60_3 : w59.cell? ⟨gb101,3,none⟩ = some (.string a0_3) := (qw BK101.out 3).trans rfl;have hfz60_0 := qv BK101.out 0;have hfz60_1 := qv BK101.out 1;have hfz60_2 := qv BK101.out 2;have hfz60_3 := qv BK101.out 3))
            have n0_ := qq.mk (zj BK101.out)
            have n1_ := qq.mk (qk HB.out)
            clear BK101
            clear HB
            have BK101 := n0_
            have HB := n1_
            clear n0_ n1_
            refine start_ (n := 5) (S := fun w' => w'.cell? ⟨gb101,0,none⟩ = some (.int .i64 a0_0) ∧ w'.cell? ⟨gb101,1,none⟩ = some (.int .i64 a0_1) ∧ w'.cell? ⟨gb101,2,none⟩ = some (.string a0_2) ∧ w'.cell? ⟨gb101,3,none⟩ = some (.string a0_3)) (ds := []) #[false,false,false,false,false] (by kernel_rfl) rfl rfl ⟨(qw BK101.out 0).trans rfl,(qw BK101.out 1).trans rfl,(qw BK101.out 2).trans rfl,(qw BK101.out 3).trans rfl⟩ (fun hHeld => ?_)
            generalize w59.drew = w61 at BK101 HB hHeld ⊢
            refine pure_ (i := 0) (N := some 41) (v := ?_) (a' := ?_) #[true,false,false,false,false] rfl rfl (by kernel_rfl) (fun _ _ _ h => h) (Or.inl ⟨by rfl,?_⟩) ?_ ?_
            rotate_left
            ·intro w'
             go_simp
             with_reducible rfl
            rotate_left
            ·simp only [Act.put,List.setIfInBounds_toArray,List.set_cons_zero,List.set_cons_succ,i64_w,i32_w]
             rfl
            refine pure_ (i := 3) (N := some 3) (v := ?_) (a' := ?_) #[true,false,false,true,false] rfl rfl (by kernel_rfl) (fun _ _ _ h => h) (Or.inl ⟨by rfl,?_⟩) ?_ ?_
            rotate_left
            ·intro w'
             go_simp
             with_reducible rfl
            rotate_left
            ·simp only [Act.put,List.setIfInBounds_toArray,List.set_cons_zero,List.set_cons_succ,i64_w,i32_w]
             rfl
            refine take_ (i := 1) (N := some 42) (v := ?_) (a' := ?_) #[true,true,false,true,false] rfl rfl (by kernel_rfl) (fun _ _ _ h => h) (Or.inl ⟨by rfl,?_⟩) hHeld ?_ ?_
            rotate_left
            ·rintro w' ⟨s0,s1,s2,s3⟩
             go_simp
             with_reducible rfl
            rotate_left
            ·simp only [Act.put,List.setIfInBounds_toArray,List.set_cons_zero,List.set_cons_succ,i64_w,i32_w]
             rfl
            refine pure_ (i := 2) (N := some 43) (v := ?_) (a' := ?_) #[true,true,true,true,false] rfl rfl (by kernel_rfl) (fun _ _ _ h => h) (Or.inl ⟨by rfl,?_⟩) ?_ ?_
            rotate_left
            ·intro w'
             go_simp
             with_reducible rfl
            rotate_left
            ·simp only [Act.put,List.setIfInBounds_toArray,List.set_cons_zero,List.set_cons_succ,i64_w,i32_w]
             rfl
            refine pure_ (i := 4) (N := some 4) (v := ?_) (a' := ?_) #[true,true,true,true,true] rfl rfl (by kernel_rfl) (fun _ _ _ h => h) (Or.inl ⟨by rfl,?_⟩) ?_ ?_
            rotate_left
            ·intro w'
             go_simp
             with_reducible rfl
            rotate_left
            ·simp only [Act.put,List.setIfInBounds_toArray,List.set_cons_zero,List.set_cons_succ,i64_w,i32_w]
             rfl
            refine done_ (by kernel_rfl) ?_
            have hcz62_0 : w61.cell? ⟨gb101,0,none⟩ = some (.int .i64 a0_0) := (qw BK101.out 0).trans rfl
            have hcz62_1 : w61.cell? ⟨gb101,1,none⟩ = some (.int .i64 a0_1) := (qw BK101.out 1).trans rfl
            have hcz62_2 : w61.cell? ⟨gb101,2,none⟩ = some (.string a0_2) := (qw BK101.out 2).trans rfl
            have hcz62_3 : w61.cell? ⟨gb101,3,none⟩ = some (.string a0_3) := (qw BK101.out 3).trans rfl
            have hfz62_0 := qv BK101.out 0
            have hfz62_1 := qv BK101.out 1
            have hfz62_2 := qv BK101.out 2
            have hfz62_3 := qv BK101.out 3
            try go_wp2_with (first | ((with_reducible refine jv (f := 57) rfl ?_);refine goesL_ (some 52) rfl rfl Tryz.func57 (by kernel_rfl) rfl #[.int .u64 (IntKind.u64.wrap ((Int.tmod (IntKind.u64.wrap (a0_1)) 10000) + 10000)),.int .i64 10] rfl (by (try simp only [List.map_toArray,List.map_cons,List.map_nil]);first | done | rfl | (simp only [List.length_drop,List.length_take];rfl)) ?_;(with_reducible refine (qwj.calls (IntKind.u64.wrap ((Int.tmod (IntKind.u64.wrap (a0_1)) 10000) + 10000)) 10 t109 _ ?tabw A51.out).mono ?_);(case tabw => repeat (first | exact HTAB.out | exact TabW_below HTAB.out HB.out | exact TabW_below HTAB.out (by repeat (first | exact HB.out | apply qj | apply qz | apply qk | refine qx ?_ GE101.out)) | (with_reducible refine TabW_drewN ?_ _) | (with_reducible refine TabW_drew ?_) | (with_reducible refine TabW_alloc ?_ _)));rintro e w63 ⟨rfl,hb⟩;refine ⟨_,rfl,?_⟩;have n0_ := qq.mk (kw (g := gb101) (o := .cells #[.int .i64 a0_0,.int .i64 a0_1,.string a0_2,.string a0_3] 28 (0,0)) (by (with_reducible repeat (first | refine zz ?_ _ | refine zj ?_ | refine zq ?_ _));exact BK101.out) hb);have n1_ := qq.mk (zv (by repeat (first | (with_reducible first | exact HB.out | apply qj | apply qz | apply qk | refine qx ?_ GE101.out) | exact HB.out)) hb);clear BK101;clear HB;have BK101 := n0_;have HB := n1_;clear n0_ n1_;(try clear hb);(try clear hb2);(try clear hk);(try clear hi)))
            have n0_ := qq.mk (zj BK101.out)
            have n1_ := qq.mk (qk HB.out)
            clear BK101
            clear HB
            have BK101 := n0_
            have HB := n1_
            clear n0_ n1_
            refine start_ (n := 10) (S := fun w' => True) (ds := []) #[false,false,false,false,false,false,false,false,false,false] (by kernel_rfl) rfl rfl trivial (fun hHeld => ?_);refine with_tabW vx.tab17 vx.bits17 (fun HT_ HW_ => ?_)
            generalize w63.drew = w64 at BK101 HB hHeld ⊢
            refine pure_ (i := 0) (N := some 53) (v := ?_) (a' := ?_) #[true,false,false,false,false,false,false,false,false,false] rfl rfl (any_of HT_.out (by kernel_rfl)) (fun _ _ _ h => h) (Or.inl ⟨by rfl,?_⟩) ?_ ?_
            rotate_left
            ·intro w'
             go_simp
             with_reducible rfl
            rotate_left
            ·simp only [Act.put,List.setIfInBounds_toArray,List.set_cons_zero,List.set_cons_succ,i64_w,i32_w]
             rfl
            refine pure_ (i := 1) (N := some 54) (v := ?_) (a' := ?_) #[true,true,false,false,false,false,false,false,false,false] rfl rfl (any_of HT_.out (by kernel_rfl)) (fun _ _ _ h => h) (Or.inl ⟨by rfl,?_⟩) ?_ ?_
            rotate_left
            ·intro w'
             go_simp
             with_reducible rfl
            rotate_left
            ·simp only [Act.put,List.setIfInBounds_toArray,List.set_cons_zero,List.set_cons_succ,i64_w,i32_w]
             rfl
            refine pure_ (i := 2) (N := some 55) (v := ?_) (a' := ?_) #[true,true,true,false,false,false,false,false,false,false] rfl rfl (any_of HT_.out (by kernel_rfl)) (fun _ _ _ h => h) (Or.inl ⟨by rfl,?_⟩) ?_ ?_
            rotate_left
            ·intro w'
             go_simp
             with_reducible rfl
            rotate_left
            ·simp only [Act.put,List.setIfInBounds_toArray,List.set_cons_zero,List.set_cons_succ,i64_w,i32_w]
             rfl
            refine pure_ (i := 6) (N := some 59) (v := ?_) (a' := ?_) #[true,true,true,false,false,false,true,false,false,false] rfl rfl (any_of HT_.out (by kernel_rfl)) (fun _ _ _ h => h) (Or.inl ⟨by rfl,?_⟩) ?_ ?_
            rotate_left
            ·intro w'
             go_simp
             with_reducible rfl
            rotate_left
            ·simp only [Act.put,List.setIfInBounds_toArray,List.set_cons_zero,List.set_cons_succ,i64_w,i32_w]
             rfl
            refine pure_ (i := 7) (N := some 60) (v := ?_) (a' := ?_) #[true,true,true,false,false,false,true,true,false,false] rfl rfl (any_of HT_.out (by kernel_rfl)) (fun _ _ _ h => h) (Or.inl ⟨by rfl,?_⟩) ?_ ?_
            rotate_left
            ·intro w'
             go_simp
             with_reducible rfl
            rotate_left
            ·simp only [Act.put,List.setIfInBounds_toArray,List.set_cons_zero,List.set_cons_succ,i64_w,i32_w]
             rfl
            refine one_ (i := 3) (N := some 56) #[true,true,true,true,false,false,true,true,false,false] rfl rfl (one_of HT_.out (by kernel_rfl)) (by decide) (fun K hK => ?_)
            refine goes_ Tryz.func57 (by kernel_rfl) rfl #[.int .u64 (IntKind.u64.wrap (Int.tdiv (IntKind.u64.wrap (a0_1)) 10000)),.int .i64 10] (by rfl) rfl rfl (by (try simp only [List.map_toArray,List.map_cons,List.map_nil]);first | done | rfl | (simp only [List.length_drop,List.length_take];rfl)) ?_
            with_reducible refine (qwj.calls (IntKind.u64.wrap (Int.tdiv (IntKind.u64.wrap (a0_1)) 10000)) 10 t110 _ ?tabw A52.out).mono ?_
            (case tabw => repeat (first | exact HTAB.out | exact TabW_below HTAB.out HB.out | (with_reducible refine TabW_drewN ?_ _) | (with_reducible refine TabW_drew ?_) | (with_reducible refine TabW_alloc ?_ _)))
            rintro e w65 ⟨rfl,hb⟩
            refine ⟨_,rfl,?_⟩
            have n0_ := qq.mk (kw (g := gb101) (o := .cells #[.int .i64 a0_0,.int .i64 a0_1,.string a0_2,.string a0_3] 28 (0,0)) (by (with_reducible repeat (first | refine zz ?_ _ | refine zj ?_ | refine zq ?_ _));exact BK101.out) hb)
            have n1_ := qq.mk (zv (by repeat (first | (with_reducible first | exact HB.out | apply qj | apply qz | apply qk | refine qx ?_ GE101.out) | exact HB.out)) hb)
            clear BK101
            clear HB
            have BK101 := n0_
            have HB := n1_
            clear n0_ n1_
            (try clear hb)
            (try clear hb2)
            (try clear hk)
            (try clear hi)
            refine hK.out _ _ trivial (fun hHeld => ?_)
            clear hK K
            refine norm_ (a' := ?_) ?_ ?_
            rotate_left
            ·show Act.put _ (some 56) _ = _
             simp only [Act.put,List.setIfInBounds_toArray,List.set_cons_zero,List.set_cons_succ,i64_w,i32_w]
             rfl
            refine pure_ (i := 4) (N := some 57) (v := ?_) (a' := ?_) #[true,true,true,true,true,false,true,true,false,false] rfl rfl (any_of HT_.out (by kernel_rfl)) (fun _ _ _ h => h) (Or.inl ⟨by rfl,?_⟩) ?_ ?_
            rotate_left
            ·intro w'
             go_simp
             with_reducible rfl
            rotate_left
            ·simp only [Act.put,List.setIfInBounds_toArray,List.set_cons_zero,List.set_cons_succ,i64_w,i32_w]
             rfl
            refine pure_ (i := 5) (N := some 58) (v := ?_) (a' := ?_) #[true,true,true,true,true,true,true,true,false,false] rfl rfl (any_of HT_.out (by kernel_rfl)) (fun _ _ _ h => h) (Or.inl ⟨by rfl,?_⟩) ?_ ?_
            rotate_left
            ·intro w'
             go_simp
             with_reducible rfl
            rotate_left
            ·simp only [Act.put,List.setIfInBounds_toArray,List.set_cons_zero,List.set_cons_succ,i64_w,i32_w]
             rfl
            refine pure_ (i := 8) (N := some 61) (v := ?_) (a' := ?_) #[true,true,true,true,true,true,true,true,true,false] rfl rfl (any_of HT_.out (by kernel_rfl)) (fun _ _ _ h => h) (Or.inl ⟨by rfl,?_⟩) ?_ ?_
            rotate_left
            ·intro w'
             go_simp
             with_reducible rfl
            rotate_left
            ·simp only [Act.put,List.setIfInBounds_toArray,List.set_cons_zero,List.set_cons_succ,i64_w,i32_w]
             rfl
            refine pure_ (i := 9) (N := some 2) (v := ?_) (a' := ?_) #[true,true,true,true,true,true,true,true,true,true] rfl rfl (any_of HT_.out (by kernel_rfl)) (fun _ _ _ h => h) (Or.inl ⟨by rfl,?_⟩) ?_ ?_
            rotate_left
            ·intro w'
             go_simp
             with_reducible rfl
            rotate_left
            ·simp only [Act.put,List.setIfInBounds_toArray,List.set_cons_zero,List.set_cons_succ,i64_w,i32_w]
             rfl
            refine done_ (done_of HT_.out (by kernel_rfl)) ?_
            try go_wp2
            go_ret
            exact ⟨by first | rfl | (simp [*,jk,jj] <;> rfl),by repeat (first | (with_reducible first | exact HB.out | apply qj | apply qz | apply qk | refine qx ?_ GE101.out) | exact HB.out)⟩
           ·rw [if_neg c56] at H
            exact absurd H (by simp)
          ·rw [if_neg c55] at H
           exact absurd H (by simp)
         ·rw [if_neg c54] at H
          exact absurd H (by simp)
        ·rw [if_neg c53] at H
         exact absurd H (by simp)
      ·rw [if_neg c34] at H
       have c34b0 : (a0_0 == 5) = false := beq_eq_false_iff_ne.mpr c34
       have c34b1 : (a0_0 != 5) = true := bne_iff_ne.mpr c34
       by_cases c66 : a0_0 = 6
       ·rw [if_pos c66] at H
        have c66b0 : (a0_0 == 6) = true := beq_iff_eq.mpr c66
        have c66b1 : (a0_0 != 6) = false := bne_eq_false_iff_eq.mpr c66
        clear c66
        have H' := qq.mk H
        clear H
        go_enter Tryz.func25,Tryz.ntmps25
        go_wp2_with (first | ((with_reducible refine gate_dst (N := 1) rfl ?_);refine box_event ?hg (N := 1) ?hd (cs := #[.int .i64 a0_0,.int .i64 a0_1,.string a0_2,.string a0_3]) (t := 28) ?hr ?_;(case hd => rfl);(case hg => rfl);(case hr => first | (go_simp;done) | (go_simp;rfl));intro gb101 hg w67 hbox hb;have n0_ := qq.mk (zv (by repeat (first | (with_reducible first | exact HB.out | apply qj | apply qz | apply qk) | exact HB.out)) hb);have n1_ := qq.mk (hbox);have n2_ := qq.mk ((by rw [hg];exact (zw (by repeat (first | (with_reducible first | exact HB.out | apply qj | apply qz | apply qk) | exact HB.out))) : w.heap.size ≤ gb101));have n3_ := qq.mk ((by rw [hg];exact (zw (by repeat (first | (with_reducible first | exact HB.out | apply qj | apply qz | apply qk) | exact HB.out))) : w.heap.size ≤ gb101));clear HB;have HB := n0_;have BK101 := n1_;have GW101 := n2_;have GE101 := n3_;clear n0_ n1_ n2_ n3_;clear hb hbox hg;have hcz68_0 : w67.cell? ⟨gb101,0,none⟩ = some (.int .i64 a0_0) := (qw BK101.out 0).trans rfl;have hcz68_1 : w67.cell? ⟨gb101,1,none⟩ = some (.int .i64 a0_1) := (qw BK101.out 1).trans rfl;have hcz68_2 : w67.cell? ⟨gb101,2,none⟩ = some (.string a0_2) := (qw BK101.out 2).trans rfl;have hcz68_3 : w67.cell? ⟨gb101,3,none⟩ = some (.string a0_3) := (qw BK101.out 3).trans rfl;have hfz68_0 := qv BK101.out 0;have hfz68_1 := qv BK101.out 1;have hfz68_2 := qv BK101.out 2;have hfz68_3 := qv BK101.out 3) | ((with_reducible refine jv (f := 52) rfl ?_);refine goesL_ (some 10) rfl rfl Tryz.func52 (by kernel_rfl) rfl #[.agg #[.int .i64 a0_0,.int .i64 a0_1,.string a0_2,.string a0_3]] rfl (by (try simp only [List.map_toArray,List.map_cons,List.map_nil]);first | done | rfl | (simp only [List.length_drop,List.length_take];rfl)) ?_;(with_reducible refine (wz.calls k a0_0 a0_1 a0_2 a0_3 true _ A2.out).mono ?_);rintro e w69 ⟨rfl,hb⟩;refine ⟨_,rfl,?_⟩;have n0_ := qq.mk (kw (g := gb101) (o := .cells #[.int .i64 a0_0,.int .i64 a0_1,.string a0_2,.string a0_3] 28 (0,0)) (by (with_reducible repeat (first | refine zz ?_ _ | refine zj ?_ | refine zq ?_ _));exact BK101.out) hb);have n1_ := qq.mk (zv (by repeat (first | (with_reducible first | exact HB.out | apply qj | apply qz | apply qk | refine qx ?_ GE101.out) | exact HB.out)) hb);clear BK101;clear HB;have BK101 := n0_;have HB := n1_;clear n0_ n1_;(try clear hb);(try clear hb2);(try clear hk);(try clear hi);have hcz70_0 : w69.cell? ⟨gb101,0,none⟩ = some (.int .i64 a0_0) := (qw BK101.out 0).trans rfl;have hcz70_1 : w69.cell? ⟨gb101,1,none⟩ = some (.int .i64 a0_1) := (qw BK101.out 1).trans rfl;have hcz70_2 : w69.cell? ⟨gb101,2,none⟩ = some (.string a0_2) := (qw BK101.out 2).trans rfl;have hcz70_3 : w69.cell? ⟨gb101,3,none⟩ = some (.string a0_3) := (qw BK101.out 3).trans rfl;have hfz70_0 := qv BK101.out 0;have hfz70_1 := qv BK101.out 1;have hfz70_2 := qv BK101.out 2;have hfz70_3 := qv BK101.out 3))
        go_loopg [7,8] k (fun kq v7 v8 w' => ∃ (x7_1 : ByteArray) (x8_1 : Int),v7 = .string x7_1 ∧ v8 = .int .i64 x8_1 ∧ qq (vx.l0 kq (wrap64 (Int.tdiv a0_1 64)) x7_1 x8_1 a0_0 a0_1 a0_2 a0_3 = some r) ∧ qq (kq ≤ k) ∧ qq (w'.heap[gb101]? = some (.cells #[.int .i64 a0_0,.int .i64 a0_1,.string a0_2,.string a0_3] 28 (0,0))) ∧ qq (Below w.heap.size w w'))
        case atStart => exact ⟨((⟨#[]⟩ : ByteArray)),(24),(by first | rfl | (simp;done) | (simp [*];done)),(by first | rfl | (simp;done) | (simp [*];done)),H',⟨Nat.le_refl _⟩,⟨by (with_reducible repeat (first | refine zz ?_ _ | refine zj ?_ | refine zq ?_ _));exact BK101.out⟩,⟨by repeat (first | (with_reducible first | exact HB.out | apply qj | apply qz | apply qk | refine qx ?_ GE101.out) | exact HB.out)⟩⟩
        case round =>
         clear H'
         try clear c1
         try clear c2
         try clear p2
         try clear c3
         try clear c4
         try clear c5
         try clear c6
         try clear p6
         try clear c10
         try clear c10b0
         try clear c10b1
         try clear c17
         try clear c17b0
         try clear c17b1
         try clear c24
         try clear c24b0
         try clear c24b1
         try clear c25
         try clear c25b0
         try clear c25b1
         try clear c25b2
         try clear c27
         try clear c27b0
         try clear c27b1
         try clear c27b2
         try clear c34
         try clear c34b0
         try clear c34b1
         try clear c35
         try clear c35b0
         try clear c38
         try clear c38b0
         try clear c38b1
         try clear c38b2
         try clear c39
         try clear c39b0
         try clear c39b1
         try clear c39b2
         try clear c40
         try clear c40b0
         try clear c40b1
         try clear c41
         try clear c41b0
         try clear c41b1
         try clear c41b2
         try clear c52
         try clear c53
         try clear c53b0
         try clear c53b1
         try clear c53b2
         try clear c54
         try clear c54b0
         try clear c54b1
         try clear c54b2
         try clear c55
         try clear c55b0
         try clear c55b1
         try clear c56
         try clear c56b0
         try clear c56b1
         try clear c56b2
         try clear c57
         try clear p64
         try clear c66
         try clear c66b0
         try clear c66b1
         try clear hcz13_0
         try clear hcz13_1
         try clear hcz13_2
         try clear hcz13_3
         try clear hcz15_0
         try clear hcz15_1
         try clear hcz15_2
         try clear hcz15_3
         try clear hcz20_0
         try clear hcz20_1
         try clear hcz20_2
         try clear hcz20_3
         try clear hcz22_0
         try clear hcz22_1
         try clear hcz22_2
         try clear hcz22_3
         try clear hcz29_0
         try clear hcz29_1
         try clear hcz29_2
         try clear hcz29_3
         try clear hcz31_0
         try clear hcz31_1
         try clear hcz31_2
         try clear hcz31_3
         try clear hcz43_0
         try clear hcz43_1
         try clear hcz43_2
         try clear hcz43_3
         try clear hcz45_0
         try clear hcz45_1
         try clear hcz45_2
         try clear hcz45_3
         try clear hcz47_0
         try clear hcz47_1
         try clear hcz47_2
         try clear hcz47_3
         try clear hcz58_0
         try clear hcz58_1
         try clear hcz58_2
         try clear hcz58_3
         try clear hcz60_0
         try clear hcz60_1
         try clear hcz60_2
         try clear hcz60_3
         try clear hcz62_0
         try clear hcz62_1
         try clear hcz62_2
         try clear hcz62_3
         try clear hcz68_0
         try clear hcz68_1
         try clear hcz68_2
         try clear hcz68_3
         try clear hcz70_0
         try clear hcz70_1
         try clear hcz70_2
         try clear hcz70_3
         try clear hfz13_0
         try clear hfz13_1
         try clear hfz13_2
         try clear hfz13_3
         try clear hfz15_0
         try clear hfz15_1
         try clear hfz15_2
         try clear hfz15_3
         try clear hfz20_0
         try clear hfz20_1
         try clear hfz20_2
         try clear hfz20_3
         try clear hfz22_0
         try clear hfz22_1
         try clear hfz22_2
         try clear hfz22_3
         try clear hfz29_0
         try clear hfz29_1
         try clear hfz29_2
         try clear hfz29_3
         try clear hfz31_0
         try clear hfz31_1
         try clear hfz31_2
         try clear hfz31_3
         try clear hfz43_0
         try clear hfz43_1
         try clear hfz43_2
         try clear hfz43_3
         try clear hfz45_0
         try clear hfz45_1
         try clear hfz45_2
         try clear hfz45_3
         try clear hfz47_0
         try clear hfz47_1
         try clear hfz47_2
         try clear hfz47_3
         try clear hfz58_0
         try clear hfz58_1
         try clear hfz58_2
         try clear hfz58_3
         try clear hfz60_0
         try clear hfz60_1
         try clear hfz60_2
         try clear hfz60_3
         try clear hfz62_0
         try clear hfz62_1
         try clear hfz62_2
         try clear hfz62_3
         try clear hfz68_0
         try clear hfz68_1
         try clear hfz68_2
         try clear hfz68_3
         try clear hfz70_0
         try clear hfz70_1
         try clear hfz70_2
         try clear hfz70_3
         obtain ⟨x7_1,x8_1,rfl,rfl,HA,HK1,BK101,HB⟩ := hrel
         cases gk with
         | zero => exact absurd HA.out (by simp [vx.l0])
         | succ k1 =>
          have H := HA.out
          clear HA
          simp only [vx.l0] at H
          by_cases c71 : x8_1 ≥ 0
          ·rw [if_pos c71] at H
           have c71b0 : decide (0 ≤ x8_1) = true := decide_eq_true c71
           clear c71
           by_cases c72 : 0 ≤ x8_1
           ·rw [if_pos c72] at H
            have c72b0 := eq_true c72
            have c72b1 : decide (0 ≤ x8_1) = true := decide_eq_true c72
            clear c72
            obtain ⟨ji73,hji73⟩ : ∃ j_ : Int,(shr .i64 (wrap64 (Int.tdiv a0_1 64)) x8_1) = j_ := ⟨_,rfl⟩
            replace H : ((strconv_Itoa.f (Go.bits .and .i64 (ji73) 255)).bind fun t111 => (if t111.size + 1 ≤ 9223372036854775807 then (if x7_1.size + (t111 ++ (⟨#[46]⟩ : ByteArray)).size ≤ 9223372036854775807 then (vx.l0 k1 (wrap64 (Int.tdiv a0_1 64)) (x7_1 ++ (t111 ++ (⟨#[46]⟩ : ByteArray))) (wrap64 (x8_1 - 8)) a0_0 a0_1 a0_2 a0_3) else (none)) else (none))) = some r := by first | (rw [hji73] at H;exact H) | (simp only [hji73] at H ⊢;exact H)
            have hji73_ : ((wrap64 (Int.tdiv a0_1 64)) / 2 ^ min x8_1.toNat 64) = ji73 := hji73
            have hji73z : x8_1 ≤ 64 → ((wrap64 (Int.tdiv a0_1 64)) / 2 ^ x8_1.toNat) = ji73 := shr_small hji73
            replace H := Option.bind_eq_some_iff.mp H
            obtain ⟨t111,A740,H⟩ := H
            replace H : (if t111.size + 1 ≤ 9223372036854775807 then (if x7_1.size + (t111 ++ (⟨#[46]⟩ : ByteArray)).size ≤ 9223372036854775807 then (vx.l0 k1 (wrap64 (Int.tdiv a0_1 64)) (x7_1 ++ (t111 ++ (⟨#[46]⟩ : ByteArray))) (wrap64 (x8_1 - 8)) a0_0 a0_1 a0_2 a0_3) else (none)) else (none)) = some r := H
            have A74 := qq.mk A740
            clear A740
            by_cases c75 : t111.size + 1 ≤ 9223372036854775807
            ·rw [if_pos c75] at H
             have c75b0 := eq_true c75
             have c75b1 : decide (t111.size + 1 ≤ 9223372036854775807) = true := decide_eq_true c75
             try have c75b2 : (9223372036854775807 < t111.size + 1) = False := eq_false (Nat.not_lt.2 c75)
             by_cases c76 : x7_1.size + (t111 ++ (⟨#[46]⟩ : ByteArray)).size ≤ 9223372036854775807
             ·rw [if_pos c76] at H
              have c76b0 := eq_true c76
              have c76b1 : decide (x7_1.size + (t111 ++ (⟨#[46]⟩ : ByteArray)).size ≤ 9223372036854775807) = true := decide_eq_true c76
              try have c76b2 : (9223372036854775807 < x7_1.size + (t111 ++ (⟨#[46]⟩ : ByteArray)).size) = False := eq_false (Nat.not_lt.2 c76)
              try (have c76b9 := c76b2;simp only [ByteArray.size_append,show (⟨#[46]⟩ : ByteArray).size = 1 from rfl] at c76b9)
              have H' := qq.mk H
              clear H
              go_wp2_with (first | ((with_reducible refine jv (f := 55) rfl ?_);refine goesL_ (some 76) rfl rfl Tryz.func55 (by kernel_rfl) rfl #[.int .i64 (Go.bits .and .i64 (ji73) 255)] rfl (by (try simp only [List.map_toArray,List.map_cons,List.map_nil]);first | done | (simp only [hji73];rfl) | rfl | (simp only [List.length_drop,List.length_take];rfl)) ?_;(with_reducible refine (strconv_Itoa.calls (Go.bits .and .i64 (ji73) 255) t111 _ ?tabw A74.out).mono ?_);(case tabw => repeat (first | exact HTAB.out | exact TabW_below HTAB.out HB.out | exact TabW_below HTAB.out (by repeat (first | exact HB.out | apply qj | apply qz | apply qk | refine qx ?_ GE101.out)) | (with_reducible refine TabW_drewN ?_ _) | (with_reducible refine TabW_drew ?_) | (with_reducible refine TabW_alloc ?_ _)));rintro e w77 ⟨rfl,hb⟩;refine ⟨_,rfl,?_⟩;have n0_ := qq.mk (kw (g := gb101) (o := .cells #[.int .i64 a0_0,.int .i64 a0_1,.string a0_2,.string a0_3] 28 (0,0)) (by (with_reducible repeat (first | refine zz ?_ _ | refine zj ?_ | refine zq ?_ _));exact BK101.out) hb);have n1_ := qq.mk (zv (by repeat (first | (with_reducible first | exact HB.out | apply qj | apply qz | apply qk | refine qx ?_ GE101.out) | exact HB.out)) hb);clear BK101;clear HB;have BK101 := n0_;have HB := n1_;clear n0_ n1_;(try clear hb);(try clear hb2);(try clear hk);(try clear hi)))
              go_roundg k1
              case measure => have := HK1.out;omega
              case rel => exact ⟨(x7_1 ++ (t111 ++ (⟨#[46]⟩ : ByteArray))),(wrap64 (x8_1 - 8)),(by first | rfl | (simp;done) | (simp [*];done)),(by first | rfl | (simp;done) | (simp [*];done)),H',⟨by have := HK1.out;omega⟩,⟨by (with_reducible repeat (first | refine zz ?_ _ | refine zj ?_ | refine zq ?_ _));exact BK101.out⟩,⟨by repeat (first | (with_reducible first | exact HB.out | apply qj | apply qz | apply qk | refine qx ?_ GE101.out) | exact HB.out)⟩⟩
             ·rw [if_neg c76] at H
              exact absurd H (by simp)
            ·rw [if_neg c75] at H
             exact absurd H (by simp)
           ·rw [if_neg c72] at H
            exact absurd H (by simp)
          ·rw [if_neg c71] at H
           have c71b0 : decide (0 ≤ x8_1) = false := decide_eq_false c71
           clear c71
           obtain ⟨ji78,hji78⟩ : ∃ j_ : Int,(wrap64 ((x7_1.size : Int) - 1)) = j_ := ⟨_,rfl⟩
           replace H : (if 0 ≤ (ji78) then (if (ji78) ≤ (x7_1.size : Int) then (if (x7_1.extract 0 ((ji78) : Int).toNat).size + 1 ≤ 9223372036854775807 then ((strconv_Itoa.f (Int.tmod a0_1 64)).bind fun t112 => (if ((x7_1.extract 0 ((ji78) : Int).toNat) ++ (⟨#[47]⟩ : ByteArray)).size + t112.size ≤ 9223372036854775807 then (some (((x7_1.extract 0 ((ji78) : Int).toNat) ++ (⟨#[47]⟩ : ByteArray)) ++ t112)) else (none))) else (none)) else (none)) else (none)) = some r := by first | (rw [hji78] at H;exact H) | (simp only [hji78] at H ⊢;exact H)
           have hji78w : (IntKind.i64.wrap ((x7_1.size : Int) - 1)) = ji78 := (i64_w _).trans hji78
           by_cases c79 : 0 ≤ (ji78)
           ·rw [if_pos c79] at H
            have c79b0 := eq_true c79
            have c79b1 : decide (0 ≤ (ji78)) = true := decide_eq_true c79
            clear c79
            by_cases c80 : (ji78) ≤ (x7_1.size : Int)
            ·rw [if_pos c80] at H
             have c80b0 := eq_true c80
             have c80b1 : decide ((ji78) ≤ (x7_1.size : Int)) = true := decide_eq_true c80
             clear c80
             by_cases c81 : (x7_1.extract 0 ((ji78) : Int).toNat).size + 1 ≤ 9223372036854775807
             ·rw [if_pos c81] at H
              have c81b0 := eq_true c81
              have c81b1 : decide ((x7_1.extract 0 ((ji78) : Int).toNat).size + 1 ≤ 9223372036854775807) = true := decide_eq_true c81
              try have c81b2 : (9223372036854775807 < (x7_1.extract 0 ((ji78) : Int).toNat).size + 1) = False := eq_false (Nat.not_lt.2 c81)
              have c81b5 : (9223372036854775807 < ji78.toNat + 1) = False := eq_false (by
               have e_ := c81
               have e1_ : (ji78 : Int).toNat ≤ x7_1.size := by
                have e2_ := of_eq_true c80b0
                clear hji78 hji78w
                omega
               simp only [ByteArray.size_append,ByteArray.size_extract,Nat.min_eq_left e1_,Nat.sub_zero,Nat.min_self,show (⟨#[46]⟩ : ByteArray).size = 1 from rfl,show (⟨#[47]⟩ : ByteArray).size = 1 from rfl] at e_
               exact Nat.not_lt.2 e_)
              replace H := Option.bind_eq_some_iff.mp H
              obtain ⟨t112,A820,H⟩ := H
              replace H : (if ((x7_1.extract 0 ((ji78) : Int).toNat) ++ (⟨#[47]⟩ : ByteArray)).size + t112.size ≤ 9223372036854775807 then (some (((x7_1.extract 0 ((ji78) : Int).toNat) ++ (⟨#[47]⟩ : ByteArray)) ++ t112)) else (none)) = some r := H
              have A82 := qq.mk A820
              clear A820
              by_cases c83 : ((x7_1.extract 0 ((ji78) : Int).toNat) ++ (⟨#[47]⟩ : ByteArray)).size + t112.size ≤ 9223372036854775807
              ·rw [if_pos c83] at H
               have c83b0 := eq_true c83
               have c83b1 : decide (((x7_1.extract 0 ((ji78) : Int).toNat) ++ (⟨#[47]⟩ : ByteArray)).size + t112.size ≤ 9223372036854775807) = true := decide_eq_true c83
               try have c83b2 : (9223372036854775807 < ((x7_1.extract 0 ((ji78) : Int).toNat) ++ (⟨#[47]⟩ : ByteArray)).size + t112.size) = False := eq_false (Nat.not_lt.2 c83)
               have c83b5 : (9223372036854775807 < ji78.toNat + 1 + t112.size) = False := eq_false (by
                have e_ := c83
                have e1_ : (ji78 : Int).toNat ≤ x7_1.size := by
                 have e2_ := of_eq_true c80b0
                 clear hji78 hji78w
                 omega
                simp only [ByteArray.size_append,ByteArray.size_extract,Nat.min_eq_left e1_,Nat.sub_zero,Nat.min_self,show (⟨#[46]⟩ : ByteArray).size = 1 from rfl,show (⟨#[47]⟩ : ByteArray).size = 1 from rfl] at e_
                exact Nat.not_lt.2 e_)
               try (have c83b9 := c83b2;simp only [ByteArray.size_append,show (⟨#[47]⟩ : ByteArray).size = 1 from rfl] at c83b9)
               obtain rfl := Option.some.inj H
               try go_wp2
               have n0_ := qq.mk (zj BK101.out)
               have n1_ := qq.mk (qk HB.out)
               clear BK101
               clear HB
               have BK101 := n0_
               have HB := n1_
               clear n0_ n1_
               refine start_ (n := 12) (S := fun w' => w'.cell? ⟨gb101,0,none⟩ = some (.int .i64 a0_0) ∧ w'.cell? ⟨gb101,1,none⟩ = some (.int .i64 a0_1) ∧ w'.cell? ⟨gb101,2,none⟩ = some (.string a0_2) ∧ w'.cell? ⟨gb101,3,none⟩ = some (.string a0_3)) (ds := []) #[false,false,false,false,false,false,false,false,false,false,false,false] (by kernel_rfl) rfl rfl ⟨(qw BK101.out 0).trans rfl,(qw BK101.out 1).trans rfl,(qw BK101.out 2).trans rfl,(qw BK101.out 3).trans rfl⟩ (fun hHeld => ?_);refine with_tabW vx.tab25 vx.bits25 (fun HT_ HW_ => ?_)
               generalize wr.drew = w84 at BK101 HB hHeld ⊢
               refine pure_ (i := 0) (N := some 79) (v := ?_) (a' := ?_) #[true,false,false,false,false,false,false,false,false,false,false,false] rfl rfl (any_of HT_.out (by kernel_rfl)) (fun _ _ _ h => h) (Or.inl ⟨by rfl,?_⟩) ?_ ?_
               rotate_left
               ·intro w'
                go_simp
                with_reducible rfl
               rotate_left
               ·simp only [Act.put,List.setIfInBounds_toArray,List.set_cons_zero,List.set_cons_succ,i64_w,i32_w]
                rfl
               refine pure_ (i := 1) (N := some 80) (v := ?_) (a' := ?_) #[true,true,false,false,false,false,false,false,false,false,false,false] rfl rfl (any_of HT_.out (by kernel_rfl)) (fun _ _ _ h => h) (Or.inl ⟨by rfl,?_⟩) ?_ ?_
               rotate_left
               ·intro w'
                go_simp
                with_reducible rfl
               rotate_left
               ·simp only [Act.put,List.setIfInBounds_toArray,List.set_cons_zero,List.set_cons_succ,i64_w,i32_w]
                rfl
               refine pure_ (i := 2) (N := some 81) (v := ?_) (a' := ?_) #[true,true,true,false,false,false,false,false,false,false,false,false] rfl rfl (any_of HT_.out (by kernel_rfl)) (fun _ _ _ h => h) (Or.inl ⟨by rfl,?_⟩) ?_ ?_
               rotate_left
               ·intro w'
                go_simp
                with_reducible rfl
               rotate_left
               ·simp only [Act.put,List.setIfInBounds_toArray,List.set_cons_zero,List.set_cons_succ,i64_w,i32_w]
                rfl
               refine pure_ (i := 3) (N := some 82) (v := ?_) (a' := ?_) #[true,true,true,true,false,false,false,false,false,false,false,false] rfl rfl (any_of HT_.out (by kernel_rfl)) (fun _ _ _ h => h) (Or.inl ⟨by rfl,?_⟩) ?_ ?_
               rotate_left
               ·intro w'
                go_simp
                with_reducible rfl
               rotate_left
               ·simp only [Act.put,List.setIfInBounds_toArray,List.set_cons_zero,List.set_cons_succ,i64_w,i32_w]
                rfl
               refine pure_ (i := 4) (N := some 83) (v := ?_) (a' := ?_) #[true,true,true,true,true,false,false,false,false,false,false,false] rfl rfl (any_of HT_.out (by kernel_rfl)) (fun _ _ _ h => h) (Or.inl ⟨by rfl,?_⟩) ?_ ?_
               rotate_left
               ·intro w'
                go_simp
                with_reducible rfl
               rotate_left
               ·simp only [Act.put,List.setIfInBounds_toArray,List.set_cons_zero,List.set_cons_succ,i64_w,i32_w]
                rfl
               refine pure_ (i := 5) (N := some 84) (v := ?_) (a' := ?_) #[true,true,true,true,true,true,false,false,false,false,false,false] rfl rfl (any_of HT_.out (by kernel_rfl)) (fun _ _ _ h => h) (Or.inl ⟨by rfl,?_⟩) ?_ ?_
               rotate_left
               ·intro w'
                go_simp
                with_reducible rfl
               rotate_left
               ·simp only [Act.put,List.setIfInBounds_toArray,List.set_cons_zero,List.set_cons_succ,i64_w,i32_w]
                rfl
               refine pure_ (i := 6) (N := some 85) (v := ?_) (a' := ?_) #[true,true,true,true,true,true,true,false,false,false,false,false] rfl rfl (any_of HT_.out (by kernel_rfl)) (fun _ _ _ h => h) (Or.inl ⟨by rfl,?_⟩) ?_ ?_
               rotate_left
               ·intro w'
                go_simp
                with_reducible rfl
               rotate_left
               ·simp only [Act.put,List.setIfInBounds_toArray,List.set_cons_zero,List.set_cons_succ,i64_w,i32_w]
                rfl
               refine take_ (i := 7) (N := some 86) (v := ?_) (a' := ?_) #[true,true,true,true,true,true,true,true,false,false,false,false] rfl rfl (take_ofW HT_.out HW_.out (by kernel_rfl)) (fun _ _ _ h => h) (Or.inl ⟨by rfl,?_⟩) hHeld ?_ ?_
               rotate_left
               ·rintro w' ⟨s0,s1,s2,s3⟩
                go_simp
                with_reducible rfl
               rotate_left
               ·simp only [Act.put,List.setIfInBounds_toArray,List.set_cons_zero,List.set_cons_succ,i64_w,i32_w]
                rfl
               refine pure_ (i := 8) (N := some 87) (v := ?_) (a' := ?_) #[true,true,true,true,true,true,true,true,true,false,false,false] rfl rfl (any_of HT_.out (by kernel_rfl)) (fun _ _ _ h => h) (Or.inl ⟨by rfl,?_⟩) ?_ ?_
               rotate_left
               ·intro w'
                go_simp
                with_reducible rfl
               rotate_left
               ·simp only [Act.put,List.setIfInBounds_toArray,List.set_cons_zero,List.set_cons_succ,i64_w,i32_w]
                rfl
               refine one_ (i := 9) (N := some 88) #[true,true,true,true,true,true,true,true,true,true,false,false] rfl rfl (one_of HT_.out (by kernel_rfl)) (by decide) (fun K hK => ?_)
               refine goes_ Tryz.func55 (by kernel_rfl) rfl #[.int .i64 (Int.tmod a0_1 64)] (by rfl) rfl rfl (by (try simp only [List.map_toArray,List.map_cons,List.map_nil]);first | done | rfl | (simp only [List.length_drop,List.length_take];rfl)) ?_
               with_reducible refine (strconv_Itoa.calls (Int.tmod a0_1 64) t112 _ ?tabw A82.out).mono ?_
               (case tabw => repeat (first | exact HTAB.out | exact TabW_below HTAB.out HB.out | (with_reducible refine TabW_drewN ?_ _) | (with_reducible refine TabW_drew ?_) | (with_reducible refine TabW_alloc ?_ _)))
               rintro e w85 ⟨rfl,hb⟩
               refine ⟨_,rfl,?_⟩
               have n0_ := qq.mk (kw (g := gb101) (o := .cells #[.int .i64 a0_0,.int .i64 a0_1,.string a0_2,.string a0_3] 28 (0,0)) (by (with_reducible repeat (first | refine zz ?_ _ | refine zj ?_ | refine zq ?_ _));exact BK101.out) hb)
               have n1_ := qq.mk (zv (by repeat (first | (with_reducible first | exact HB.out | apply qj | apply qz | apply qk | refine qx ?_ GE101.out) | exact HB.out)) hb)
               clear BK101
               clear HB
               have BK101 := n0_
               have HB := n1_
               clear n0_ n1_
               (try clear hb)
               (try clear hb2)
               (try clear hk)
               (try clear hi)
               refine hK.out _ _ ⟨(qw BK101.out 0).trans rfl,(qw BK101.out 1).trans rfl,(qw BK101.out 2).trans rfl,(qw BK101.out 3).trans rfl⟩ (fun hHeld => ?_)
               clear hK K
               refine norm_ (a' := ?_) ?_ ?_
               rotate_left
               ·show Act.put _ (some 88) _ = _
                simp only [Act.put,List.setIfInBounds_toArray,List.set_cons_zero,List.set_cons_succ,i64_w,i32_w]
                rfl
               refine pure_ (i := 10) (N := some 89) (v := ?_) (a' := ?_) #[true,true,true,true,true,true,true,true,true,true,true,false] rfl rfl (any_of HT_.out (by kernel_rfl)) (fun _ _ _ h => h) (Or.inl ⟨by rfl,?_⟩) ?_ ?_
               rotate_left
               ·intro w'
                go_simp
                with_reducible rfl
               rotate_left
               ·simp only [Act.put,List.setIfInBounds_toArray,List.set_cons_zero,List.set_cons_succ,i64_w,i32_w]
                rfl
               refine pure_ (i := 11) (N := some 2) (v := ?_) (a' := ?_) #[true,true,true,true,true,true,true,true,true,true,true,true] rfl rfl (any_of HT_.out (by kernel_rfl)) (fun _ _ _ h => h) (Or.inl ⟨by rfl,?_⟩) ?_ ?_
               rotate_left
               ·intro w'
                go_simp
                with_reducible rfl
               rotate_left
               ·simp only [Act.put,List.setIfInBounds_toArray,List.set_cons_zero,List.set_cons_succ,i64_w,i32_w]
                rfl
               refine done_ (done_of HT_.out (by kernel_rfl)) ?_
               try go_wp2
               go_ret
               exact ⟨by first | rfl | (simp [jk,jj] <;> rfl) | (simp only [← hji78];first | rfl | (simp [jk,jj] <;> rfl)) | (simp [*,jk,jj] <;> rfl),by repeat (first | (with_reducible first | exact HB.out | apply qj | apply qz | apply qk | refine qx ?_ GE101.out) | exact HB.out)⟩
              ·rw [if_neg c83] at H
               exact absurd H (by simp)
             ·rw [if_neg c81] at H
              exact absurd H (by simp)
            ·rw [if_neg c80] at H
             exact absurd H (by simp)
           ·rw [if_neg c79] at H
            exact absurd H (by simp)
       ·rw [if_neg c66] at H
        have c66b0 : (a0_0 == 6) = false := beq_eq_false_iff_ne.mpr c66
        have c66b1 : (a0_0 != 6) = true := bne_iff_ne.mpr c66
        replace H := Option.bind_eq_some_iff.mp H
        obtain ⟨t113,A860,H⟩ := H
        replace H : (if 1 + t113.size ≤ 9223372036854775807 then (some ((⟨#[64]⟩ : ByteArray) ++ t113)) else (none)) = some r := H
        have A86 := qq.mk A860
        clear A860
        by_cases c87 : 1 + t113.size ≤ 9223372036854775807
        ·rw [if_pos c87] at H
         have c87b0 := eq_true c87
         have c87b1 : decide (1 + t113.size ≤ 9223372036854775807) = true := decide_eq_true c87
         try have c87b2 : (9223372036854775807 < 1 + t113.size) = False := eq_false (Nat.not_lt.2 c87)
         obtain rfl := Option.some.inj H
         go_enter Tryz.func25,Tryz.ntmps25
         go_wp2_with (first | ((with_reducible refine gate_dst (N := 1) rfl ?_);refine box_event ?hg (N := 1) ?hd (cs := #[.int .i64 a0_0,.int .i64 a0_1,.string a0_2,.string a0_3]) (t := 28) ?hr ?_;(case hd => rfl);(case hg => rfl);(case hr => first | (go_simp;done) | (go_simp;rfl));intro gb101 hg w88 hbox hb;have n0_ := qq.mk (zv (by repeat (first | (with_reducible first | exact HB.out | apply qj | apply qz | apply qk) | exact HB.out)) hb);have n1_ := qq.mk (hbox);have n2_ := qq.mk ((by rw [hg];exact (zw (by repeat (first | (with_reducible first | exact HB.out | apply qj | apply qz | apply qk) | exact HB.out))) : w.heap.size ≤ gb101));have n3_ := qq.mk ((by rw [hg];exact (zw (by repeat (first | (with_reducible first | exact HB.out | apply qj | apply qz | apply qk) | exact HB.out))) : w.heap.size ≤ gb101));clear HB;have HB := n0_;have BK101 := n1_;have GW101 := n2_;have GE101 := n3_;clear n0_ n1_ n2_ n3_;clear hb hbox hg;have hcz89_0 : w88.cell? ⟨gb101,0,none⟩ = some (.int .i64 a0_0) := (qw BK101.out 0).trans rfl;have hcz89_1 : w88.cell? ⟨gb101,1,none⟩ = some (.int .i64 a0_1) := (qw BK101.out 1).trans rfl;have hcz89_2 : w88.cell? ⟨gb101,2,none⟩ = some (.string a0_2) := (qw BK101.out 2).trans rfl;have hcz89_3 : w88.cell? ⟨gb101,3,none⟩ = some (.string a0_3) := (qw BK101.out 3).trans rfl;have hfz89_0 := qv BK101.out 0;have hfz89_1 := qv BK101.out 1;have hfz89_2 := qv BK101.out 2;have hfz89_3 := qv BK101.out 3) | ((with_reducible refine jv (f := 52) rfl ?_);refine goesL_ (some 10) rfl rfl Tryz.func52 (by kernel_rfl) rfl #[.agg #[.int .i64 a0_0,.int .i64 a0_1,.string a0_2,.string a0_3]] rfl (by (try simp only [List.map_toArray,List.map_cons,List.map_nil]);first | done | rfl | (simp only [List.length_drop,List.length_take];rfl)) ?_;(with_reducible refine (wz.calls k a0_0 a0_1 a0_2 a0_3 true _ A2.out).mono ?_);rintro e w90 ⟨rfl,hb⟩;refine ⟨_,rfl,?_⟩;have n0_ := qq.mk (kw (g := gb101) (o := .cells #[.int .i64 a0_0,.int .i64 a0_1,.string a0_2,.string a0_3] 28 (0,0)) (by (with_reducible repeat (first | refine zz ?_ _ | refine zj ?_ | refine zq ?_ _));exact BK101.out) hb);have n1_ := qq.mk (zv (by repeat (first | (with_reducible first | exact HB.out | apply qj | apply qz | apply qk | refine qx ?_ GE101.out) | exact HB.out)) hb);clear BK101;clear HB;have BK101 := n0_;have HB := n1_;clear n0_ n1_;(try clear hb);(try clear hb2);(try clear hk);(try clear hi);have hcz91_0 : w90.cell? ⟨gb101,0,none⟩ = some (.int .i64 a0_0) := (qw BK101.out 0).trans rfl;have hcz91_1 : w90.cell? ⟨gb101,1,none⟩ = some (.int .i64 a0_1) := (qw BK101.out 1).trans rfl;have hcz91_2 : w90.cell? ⟨gb101,2,none⟩ = some (.string a0_2) := (qw BK101.out 2).trans rfl;have hcz91_3 : w90.cell? ⟨gb101,3,none⟩ = some (.string a0_3) := (qw BK101.out 3).trans rfl;have hfz91_0 := qv BK101.out 0;have hfz91_1 := qv BK101.out 1;have hfz91_2 := qv BK101.out 2;have hfz91_3 := qv BK101.out 3) | ((with_reducible refine jv (f := 55) rfl ?_);refine goesL_ (some 92) rfl rfl Tryz.func55 (by kernel_rfl) rfl #[.int .i64 a0_1] rfl (by (try simp only [List.map_toArray,List.map_cons,List.map_nil]);first | done | rfl | (simp only [List.length_drop,List.length_take];rfl)) ?_;(with_reducible refine (strconv_Itoa.calls a0_1 t113 _ ?tabw A86.out).mono ?_);(case tabw => repeat (first | exact HTAB.out | exact TabW_below HTAB.out HB.out | exact TabW_below HTAB.out (by repeat (first | exact HB.out | apply qj | apply qz | apply qk | refine qx ?_ GE101.out)) | (with_reducible refine TabW_drewN ?_ _) | (with_reducible refine TabW_drew ?_) | (with_reducible refine TabW_alloc ?_ _)));rintro e w92 ⟨rfl,hb⟩;refine ⟨_,rfl,?_⟩;have n0_ := qq.mk (kw (g := gb101) (o := .cells #[.int .i64 a0_0,.int .i64 a0_1,.string a0_2,.string a0_3] 28 (0,0)) (by (with_reducible repeat (first | refine zz ?_ _ | refine zj ?_ | refine zq ?_ _));exact BK101.out) hb);have n1_ := qq.mk (zv (by repeat (first | (with_reducible first | exact HB.out | apply qj | apply qz | apply qk | refine qx ?_ GE101.out) | exact HB.out)) hb);clear BK101;clear HB;have BK101 := n0_;have HB := n1_;clear n0_ n1_;(try clear hb);(try clear hb2);(try clear hk);(try clear hi)))
         go_ret
         exact ⟨by first | rfl | (simp [*,jk,jj] <;> rfl),by repeat (first | (with_reducible first | exact HB.out | apply qj | apply qz | apply qk | refine qx ?_ GE101.out) | exact HB.out)⟩
        ·rw [if_neg c87] at H
         exact absurd H (by simp)
 ·replace c3 := Bool.eq_false_iff.mpr c3
  subst c3
  have H1 : (some (⟨#[]⟩ : ByteArray)) = some r := by rw [if_neg (show ¬ (false = true) by decide)] at H;exact H
  clear H
  have H := H1
  clear H1
  obtain rfl := Option.some.inj H
  go_enter Tryz.func25,Tryz.ntmps25
  go_wp2_with (first | ((with_reducible refine gate_dst (N := 1) rfl ?_);refine box_event ?hg (N := 1) ?hd (cs := #[.int .i64 a0_0,.int .i64 a0_1,.string a0_2,.string a0_3]) (t := 28) ?hr ?_;(case hd => rfl);(case hg => rfl);(case hr => first | (go_simp;done) | (go_simp;rfl));intro gb101 hg w93 hbox hb;have n0_ := qq.mk (zv (by repeat (first | (with_reducible first | exact HB.out | apply qj | apply qz | apply qk) | exact HB.out)) hb);have n1_ := qq.mk (hbox);have n2_ := qq.mk ((by rw [hg];exact (zw (by repeat (first | (with_reducible first | exact HB.out | apply qj | apply qz | apply qk) | exact HB.out))) : w.heap.size ≤ gb101));have n3_ := qq.mk ((by rw [hg];exact (zw (by repeat (first | (with_reducible first | exact HB.out | apply qj | apply qz | apply qk) | exact HB.out))) : w.heap.size ≤ gb101));clear HB;have HB := n0_;have BK101 := n1_;have GW101 := n2_;have GE101 := n3_;clear n0_ n1_ n2_ n3_;clear hb hbox hg;have hcz94_0 : w93.cell? ⟨gb101,0,none⟩ = some (.int .i64 a0_0) := (qw BK101.out 0).trans rfl;have hcz94_1 : w93.cell? ⟨gb101,1,none⟩ = some (.int .i64 a0_1) := (qw BK101.out 1).trans rfl;have hcz94_2 : w93.cell? ⟨gb101,2,none⟩ = some (.string a0_2) := (qw BK101.out 2).trans rfl;have hcz94_3 : w93.cell? ⟨gb101,3,none⟩ = some (.string a0_3) := (qw BK101.out 3).trans rfl;have hfz94_0 := qv BK101.out 0;have hfz94_1 := qv BK101.out 1;have hfz94_2 := qv BK101.out 2;have hfz94_3 := qv BK101.out 3) | ((with_reducible refine jv (f := 52) rfl ?_);refine goesL_ (some 10) rfl rfl Tryz.func52 (by kernel_rfl) rfl #[.agg #[.int .i64 a0_0,.int .i64 a0_1,.string a0_2,.string a0_3]] rfl (by (try simp only [List.map_toArray,List.map_cons,List.map_nil]);first | done | rfl | (simp only [List.length_drop,List.length_take];rfl)) ?_;(with_reducible refine (wz.calls k a0_0 a0_1 a0_2 a0_3 false _ A2.out).mono ?_);rintro e w95 ⟨rfl,hb⟩;refine ⟨_,rfl,?_⟩;have n0_ := qq.mk (kw (g := gb101) (o := .cells #[.int .i64 a0_0,.int .i64 a0_1,.string a0_2,.string a0_3] 28 (0,0)) (by (with_reducible repeat (first | refine zz ?_ _ | refine zj ?_ | refine zq ?_ _));exact BK101.out) hb);have n1_ := qq.mk (zv (by repeat (first | (with_reducible first | exact HB.out | apply qj | apply qz | apply qk | refine qx ?_ GE101.out) | exact HB.out)) hb);clear BK101;clear HB;have BK101 := n0_;have HB := n1_;clear n0_ n1_;(try clear hb);(try clear hb2);(try clear hk);(try clear hi)))
  go_ret
  exact ⟨by first | rfl | (simp [*,jk,jj] <;> rfl),by repeat (first | (with_reducible first | exact HB.out | apply qj | apply qz | apply qk | refine qx ?_ GE101.out) | exact HB.out)⟩
def opAt (n : Int) : ByteArray := opWords.getD (n - 1).toNat ⟨#[]⟩
def termB (l : ByteArray) (n : Int) (t : ByteArray) : ByteArray := (((l ++ (⟨#[32]⟩ : ByteArray)) ++ opAt n) ++ (⟨#[32]⟩ : ByteArray)) ++ t
def wk.f (k : Nat) (a0_0 : ByteArray) (a0_1 : Int) (a0_2 : ByteArray) (a0_3 : Int) (a0_4 : Int) (a0_5 : ByteArray) (a0_6 : ByteArray) : Option ByteArray :=
 (xz.f k a0_0 a0_1 a0_2 a0_3 a0_4 a0_5 a0_6).bind fun g => if g = true then ((vx.f k a0_3 a0_4 a0_5 a0_6).bind fun t => if 1 ≤ a0_1 ∧ a0_1 ≤ 4 ∧ a0_0.size ≤ 1000000000 ∧ t.size ≤ 1000000000 then some (termB a0_0 a0_1 t) else none) else some ⟨#[]⟩
theorem opAt_size (n : Int) : (opAt n).size ≤ 2 := by
 unfold opAt
 have : ∀ j : Nat,(opWords.getD j ⟨#[]⟩).size ≤ 2 := fun j => by
  match j with
  | 0 => decide
  | 1 => decide
  | 2 => decide
  | 3 => decide
  | j + 4 => exact Nat.zero_le _
 exact this _
set_option maxHeartbeats 4000000 in
set_option maxRecDepth 100000 in
theorem wk.calls (k : Nat) (a0_0 : ByteArray) (a0_1 : Int) (a0_2 : ByteArray) (a0_3 : Int) (a0_4 : Int) (a0_5 : ByteArray) (a0_6 : ByteArray) (r : ByteArray) (w : World) (htab : TabW w) (h : wk.f k a0_0 a0_1 a0_2 a0_3 a0_4 a0_5 a0_6 = some r) :
  Calls Tryz.prog 9 #[.agg #[.string a0_0,.int .i64 a0_1,.string a0_2,.int .i64 a0_3,.int .i64 a0_4,.string a0_5,.string a0_6]] w fun e w' => e = .returned (.string r) ∧ Below w.heap.size w w' := by
 have HTAB := qq.mk htab
 clear htab
 obtain ⟨g,hg,h⟩ := Option.bind_eq_some_iff.mp h
 have HG := qq.mk hg
 clear hg
 have hu30 := Tryz.underlying30
 have hu28 := Tryz.underlying28
 have hal := fun (o : Obj) => qj (Below.refl w.heap.size w) o
 cases g with
 | false =>
  rw [if_neg (by decide)] at h
  obtain rfl := Option.some.inj h
  clear h
  go_enter Tryz.func9,Tryz.ntmps9
  go_wp2_with (first | (go_at_call 24;go_loud (refine (xz.calls k a0_0 a0_1 a0_2 a0_3 a0_4 a0_5 a0_6 _ _ HG.out).mono ?_;rintro e w1 ⟨rfl,hb⟩;have HB1 := qq.mk ((hal _).trans (hb.mono (hal _).size));clear hb)))
  go_ret
  exact ⟨rfl,HB1.out⟩
 | true =>
  rw [if_pos rfl] at h
  obtain ⟨t,ht,h⟩ := Option.bind_eq_some_iff.mp h
  by_cases hc : 1 ≤ a0_1 ∧ a0_1 ≤ 4 ∧ a0_0.size ≤ 1000000000 ∧ t.size ≤ 1000000000
  case neg => rw [if_neg hc] at h;cases h
  rw [if_pos hc] at h
  obtain rfl := Option.some.inj h
  obtain ⟨hc1,hc2,hc3,hc4⟩ := hc
  have HT := qq.mk ht
  have hop := opAt_size a0_1
  obtain ⟨j,rfl⟩ : ∃ j : Nat,a0_1 = ((j + 1 : Nat) : Int) := ⟨(a0_1 - 1).toNat,by omega⟩
  have hj : j < 4 := by omega
  have hoj : opWords[j]? = some (opAt ((j + 1 : Nat) : Int)) := by
   unfold opAt
   rw [show (((j + 1 : Nat) : Int) - 1).toNat = j by omega,List.getD_eq_getElem?_getD,List.getElem?_eq_getElem (show j < opWords.length from hj)]
   rfl
  have HOJ := qq.mk hoj
  obtain ⟨q,eq⟩ : ∃ q,q = opAt ((j + 1 : Nat) : Int) := ⟨_,rfl⟩
  rw [← eq] at hop
  have EQ := qq.mk eq
  have s1 : ¬ 9223372036854775807 < a0_0.size + 1 := by omega
  have s2 : ¬ 9223372036854775807 < a0_0.size + 1 + q.size := by omega
  have s3 : ¬ 9223372036854775807 < a0_0.size + 1 + q.size + 1 := by omega
  have s4 : ¬ 9223372036854775807 < a0_0.size + 1 + q.size + 1 + t.size := by omega
  have w1a : wrap64 ((j : Int) + 1 - 1) = (j : Int) := by unfold wrap64;omega
  have p1 : (0 ≤ (j : Int)) = True := eq_true (by omega)
  have p2 : ((j : Int) < 4) = True := eq_true (by omega)
  have p3 : j < 4 := hj
  clear h ht eq hoj hc1 hc2 hc3 hc4 hop
  go_enter Tryz.func9,Tryz.ntmps9
  go_wp2_with (first | (go_at_call 24;go_loud (refine (xz.calls k a0_0 ((j + 1 : Nat) : Int) a0_2 a0_3 a0_4 a0_5 a0_6 _ _ HG.out).mono ?_;rintro e w1 ⟨rfl,hb⟩;have HB1 := qq.mk ((hal _).trans (hb.mono (hal _).size));have HBK := qq.mk (kw (blk_new w _) hb);clear hb)))
  have HT1 := qq.mk (TabW_below HTAB.out HB1.out)
  obtain ⟨A,cap,hA,hA2⟩ := HT1.out.2
  have hq := hA2 j q (by rw [EQ.out];exact HOJ.out)
  have hK : ∀ W',Below w1.heap.size w1 W' → W'.cell? ⟨w.heap.size,0,none⟩ = some (.string a0_0) ∧ W'.cell? ⟨w.heap.size,1,none⟩ = some (.int .i64 ((j : Int) + 1)) ∧ W'.cell? ⟨w.heap.size,3,none⟩ = some (.int .i64 a0_3) ∧ W'.cell? ⟨w.heap.size,4,none⟩ = some (.int .i64 a0_4) ∧ W'.cell? ⟨w.heap.size,5,none⟩ = some (.string a0_5) ∧ W'.cell? ⟨w.heap.size,6,none⟩ = some (.string a0_6) ∧ W'.cell? ⟨0,0,none⟩ = some (.slice (some A) 4 cap) ∧ W'.cell? (A.add j) = some (.string q) := fun W' hB => by
   have hbk := kw HBK.out hB
   exact ⟨qw hbk 0,qw hbk 1,qw hbk 3,qw hbk 4,qw hbk 5,qw hbk 6,(hB.cell (World.block_lt_of_cell? w1 _ hA)).trans hA,(hB.cell (World.block_lt_of_cell? w1 _ hq)).trans hq⟩
  obtain ⟨k0,k1,k2,k3,k4,k5,k6,k7⟩ := hK w1 (Below.refl _ _)
  have w1b : wrap64 (j : Int) = (j : Int) := by unfold wrap64;omega
  have w1c : IntKind.i64.wrap (j : Int) = (j : Int) := by rw [i64_w];exact w1b
  have w1i : IntKind.i64.wrap ((j : Int) + 1 - 1) = (j : Int) := by rw [i64_w];exact w1a
  go_region_held3 (fun W' => W'.cell? ⟨w.heap.size,0,none⟩ = some (.string a0_0) ∧ W'.cell? ⟨w.heap.size,1,none⟩ = some (.int .i64 ((j : Int) + 1)) ∧ W'.cell? ⟨w.heap.size,3,none⟩ = some (.int .i64 a0_3) ∧ W'.cell? ⟨w.heap.size,4,none⟩ = some (.int .i64 a0_4) ∧ W'.cell? ⟨w.heap.size,5,none⟩ = some (.string a0_5) ∧ W'.cell? ⟨w.heap.size,6,none⟩ = some (.string a0_6) ∧ W'.cell? ⟨0,0,none⟩ = some (.slice (some A) 4 cap) ∧ W'.cell? (A.add j) = some (.string q)) (first | go_keep | exact hK _ ((Below.refl w1.heap.size w1).drew.trans hB)) (first | (go_at_call 25;refine (vx.calls k a0_3 a0_4 a0_5 a0_6 t _ (by first | exact TabW_drew HT1.out | exact HT1.out) HT.out).mono ?_;rintro e w' ⟨rfl,hB⟩))
  go_wp2
  go_ret
  exact ⟨by unfold termB;rw [← EQ.out];rfl,HB1.out.drew.trans (hB.mono HB1.out.size)⟩
def qzq.f (l0 : List Int) (a1 : Int) : Option (Int) := if (wrap64 (a1 - (l0.length : Int))) < 0 then (some (-1)) else (some (wrap64 (a1 - (l0.length : Int))))
set_option maxHeartbeats 8000000 in
set_option maxRecDepth 100000 in
theorem qzq.calls (A0 : Option Addr) (c0 : Nat) (l0 : List Int) (a1 : Int) (r : Int) (w : World) (hr0 : Kd.C (Kd.int .u8) w A0 l0.length l0) (hc0 : l0.length ≤ c0) (h : qzq.f l0 a1 = some r) :
  Calls Tryz.prog 27 #[.slice A0 l0.length c0,.int .i64 a1] w fun e w' => e = .returned (.int .i64 r) ∧ Drawn0 w w' := by
 have HR0 := qq.mk hr0
 have HC0 := qq.mk hc0
 clear hr0 hc0
 have H : (if (wrap64 (a1 - (l0.length : Int))) < 0 then (some (-1)) else (some (wrap64 (a1 - (l0.length : Int))))) = some r := h
 clear h
 by_cases c3 : (wrap64 (a1 - (l0.length : Int))) < 0
 ·rw [if_pos c3] at H
  have c3b0 : decide ((wrap64 (a1 - (l0.length : Int))) < 0) = true := decide_eq_true c3
  clear c3
  obtain rfl := Option.some.inj H
  go_enter Tryz.func27,Tryz.ntmps27
  go_wp2
  go_ret
  exact ⟨by first | rfl | (simp;done) | (simp [*];done),by repeat (first | exact Drawn0.refl _ | apply Drawn0.step)⟩
 ·rw [if_neg c3] at H
  have c3b0 : decide ((wrap64 (a1 - (l0.length : Int))) < 0) = false := decide_eq_false c3
  clear c3
  obtain rfl := Option.some.inj H
  go_enter Tryz.func27,Tryz.ntmps27
  go_wp2
  go_ret
  exact ⟨by first | rfl | (simp;done) | (simp [*];done),by repeat (first | exact Drawn0.refl _ | apply Drawn0.step)⟩
def qzw.l0 : Nat → List Int → List Int → Int → Option (List Int)
 | 0,_,_,_ => none
 | k + 1,x0,x3,x4 => if x4 < (x0.length : Int) then (if 0 ≤ x4 then (if x4 < (x3.length : Int) then (qzw.l0 k x0 (x3.set (x4 : Int).toNat (rd x0 x4)) (wrap64 (x4 + 1))) else (none)) else (none)) else (some x3)
def qzw.f (k : Nat) (l0 : List Int) : Option (List Int) := if 0 ≤ (l0.length : Int) then (if ((l0.length : Int) : Int).toNat ≤ 281474976710656 then (qzw.l0 k l0 (List.replicate ((l0.length : Int) : Int).toNat 0) 0) else (none)) else (none)
set_option maxHeartbeats 8000000 in
set_option maxRecDepth 100000 in
theorem qzw.calls (k : Nat) (A0 : Option Addr) (c0 : Nat) (l0 : List Int) (r : List Int) (w : World) (hr0 : Kd.C (Kd.int .u8) w A0 l0.length l0) (hc0 : l0.length ≤ c0) (h : qzw.f k l0 = some r) :
  Calls Tryz.prog 31 #[.slice A0 l0.length c0] w fun e w' => ∃ v0_ : Value,e = .returned (v0_) ∧ Kd.R (Kd.int .u8) 5 w' w.heap.size (fun _ => True) v0_ r ∧ Below w.heap.size w w' := by
 have HR0 := qq.mk hr0
 have HC0 := qq.mk hc0
 clear hr0 hc0
 have HB := qq.mk (Below.refl w.heap.size w)
 have H : (if 0 ≤ (l0.length : Int) then (if ((l0.length : Int) : Int).toNat ≤ 281474976710656 then (qzw.l0 k l0 (List.replicate ((l0.length : Int) : Int).toNat 0) 0) else (none)) else (none)) = some r := h
 clear h
 by_cases c2 : 0 ≤ (l0.length : Int)
 ·rw [if_pos c2] at H
  have c2b0 := eq_true c2
  have c2b1 : decide (0 ≤ (l0.length : Int)) = true := decide_eq_true c2
  clear c2
  by_cases c3 : ((l0.length : Int) : Int).toNat ≤ 281474976710656
  ·rw [if_pos c3] at H
   have c3b0 := eq_true c3
   have c3b1 : decide (((l0.length : Int) : Int).toNat ≤ 281474976710656) = true := decide_eq_true c3
   clear c3
   obtain ⟨y101,hy101⟩ : ∃ y_ : List Int,y_ = (List.replicate ((l0.length : Int) : Int).toNat 0) := ⟨_,rfl⟩
   replace H : (qzw.l0 k l0 y101 0) = some r := by first | (rw [hy101];with_reducible exact H) | (have H2_ := (Option.bind_some _ _).symm.trans H;rw [hy101];with_reducible exact H2_) | (have H2_ := (Option.bind_some _ _).symm.trans H;with_reducible exact H2_) | with_reducible exact H | (rw [hy101];exact H) | exact H
   have Ny101 := qq.mk hy101
   clear hy101
   have H' := qq.mk H
   clear H
   go_enter Tryz.func31,Tryz.ntmps31
   go_wp2_with (first | ((with_reducible refine gate_dst (N := 7) rfl ?_);refine Kd.R_make (Kd.int .u8) _ 5 rfl (N := 7) rfl 34 _ _ rfl (l0.length : Int) rfl rfl Tryz.underlying34 (.int .u8 0) 1 info5 rfl (by decide) (by omega) 0 (ok := fun _ => True) (okp := fun _ => True) rfl (fun _ hk => hk) trivial (of_decide_eq_true (by assumption)) (Nat.le_trans (Nat.mul_le_mul_right _ (of_decide_eq_true (by assumption) : (l0.length : Int).toNat ≤ 281474976710656)) (by omega)) (Below.refl _ _) (Nat.le_refl _) ?_;intro v102 w4 ho5 hb hg_ hnew_;clear hg_ hnew_;(first | rw [← Ny101.out] at ho5 | (simp only [Int.reduceToNat] at ho5;rw [← Ny101.out] at ho5));have n0_ := qq.mk (Kd.R_lower ho5 (zw (by repeat (first | (with_reducible first | exact HB.out | apply qj | apply qz | apply qk) | exact HB.out))));have n1_ := qq.mk (zv (by repeat (first | (with_reducible first | exact HB.out | apply qj | apply qz | apply qk) | exact HB.out)) hb);clear HB;have HO103 := n0_;have HB := n1_;clear n0_ n1_;clear hb ho5))
   go_loopg [4] k (fun kq v4 w' => ∃ (x3_1 : List Int) (x4_1 : Int),v4 = .int .i64 x4_1 ∧ qq (qzw.l0 kq l0 x3_1 x4_1 = some r) ∧ qq (kq ≤ k) ∧ qq (Kd.R (Kd.int .u8) 5 w' w.heap.size (fun _ => True) v102 x3_1) ∧ qq (Below w.heap.size w w'))
   case atStart => exact ⟨(y101),(0),(by first | rfl | (simp;done) | (simp [*];done)),H',⟨Nat.le_refl _⟩,⟨by (with_reducible repeat (first | apply Kd.jq | apply Kd.zx | apply Kd.jz));exact HO103.out⟩,⟨by repeat (first | (with_reducible first | exact HB.out | apply qj | apply qz | apply qk) | exact HB.out)⟩⟩
   case round =>
    clear H'
    try clear c2
    try clear c2b0
    try clear c2b1
    try clear p2
    try clear c3
    try clear c3b0
    try clear c3b1
    obtain ⟨x3_1,x4_1,rfl,HA,HK1,HO_3,HB⟩ := hrel
    cases gk with
    | zero => exact absurd HA.out (by simp [qzw.l0])
    | succ k1 =>
     have H := HA.out
     clear HA
     simp only [qzw.l0] at H
     by_cases c6 : x4_1 < (l0.length : Int)
     ·rw [if_pos c6] at H
      have c6b0 : decide (x4_1 < (l0.length : Int)) = true := decide_eq_true c6
      clear c6
      by_cases c7 : 0 ≤ x4_1
      ·rw [if_pos c7] at H
       have c7b0 : decide (0 ≤ x4_1) = true := decide_eq_true c7
       clear c7
       by_cases c8 : x4_1 < (x3_1.length : Int)
       ·rw [if_pos c8] at H
        have c8b0 : decide (x4_1 < (x3_1.length : Int)) = true := decide_eq_true c8
        clear c8
        obtain ⟨y105,hy105⟩ : ∃ y_ : List Int,y_ = (x3_1.set (x4_1 : Int).toNat (rd l0 x4_1)) := ⟨_,rfl⟩
        replace H : (qzw.l0 k1 l0 y105 (wrap64 (x4_1 + 1))) = some r := by first | (rw [hy105];with_reducible exact H) | (have H2_ := (Option.bind_some _ _).symm.trans H;rw [hy105];with_reducible exact H2_) | (have H2_ := (Option.bind_some _ _).symm.trans H;with_reducible exact H2_) | with_reducible exact H | (rw [hy105];exact H) | exact H
        have Ny105 := qq.mk hy105
        clear hy105
        have H' := qq.mk H
        clear H
        have p104 : 0 ≤ (x4_1 : Int) := of_decide_eq_true (by assumption)
        have q104 : x4_1 < (l0.length : Int) := of_decide_eq_true (by assumption)
        obtain ⟨ad104,e104,hx104_0⟩ := Kd.at_int HR0.out x4_1 p104 q104
        cases e104
        replace hx104_0 := (HB.out.cell (World.block_lt_of_cell? w _ hx104_0)).trans hx104_0
        replace p104 := eq_true p104
        replace q104 := eq_true q104
        have p9 : 0 ≤ (x4_1 : Int) := of_decide_eq_true (by assumption)
        have q9 : (x4_1 : Int) < ((x3_1.length : Int) : Int) := of_decide_eq_true (by assumption)
        obtain ⟨go9,co9,eo9,gb9,gl9,cl9,HG9⟩ := Kd.R_form HO_3.out (by omega)
        (first | cases eo9 | (injection eo9 with ea_ en_ ec_;(first | subst ea_ | (injection ea_ with ea_;subst ea_));subst ec_;clear en_))
        have GB9 := qq.mk gb9
        have GG9 := qq.mk HG9
        clear gb9 gl9 HG9
        obtain ⟨hx9_0,hf9_0⟩ := Kd.R_celln 0 HO_3.out (x4_1 : Int) p9 q9
        replace p9 := eq_true p9
        replace q9 := eq_true q9
        have HP10 := Kd.R_putg HO_3.out (x4_1 : Int) (rd l0 x4_1)
        go_wp2_with (first | ((with_reducible refine jw (t := 5) (p := 20) rfl ?_);refine jx (t := 5) (p := 20) (v := ?vo_w11) (w1 := (wr.setCell ⟨go9,(x4_1 : Int).toNat,none⟩ (.int .u8 (rd l0 x4_1)))) ?hg ?ho ?hn ?hr ?_;(case ho => rfl);(case hg => rfl);(case hn => rfl);(case hr => first | (go_simp;done) | (go_simp;rfl));intro w11 hw;have hg : wr.grownBy w11 (some go9) := (by rw [hw];exact HP10.2);have hp_ : Kd.R (Kd.int .u8) 5 w11 w.heap.size (fun _ => True) (.slice (some ⟨go9,0,none⟩) x3_1.length co9) y105 := (by rw [hw,Ny105.out];exact HP10.1);clear HP10;have n0_ := qq.mk (hp_);have n1_ := qq.mk ((by rw [hw];exact qx (HB.out) GB9.out : Below w.heap.size w w11));clear HO_3;clear HB;have HO_3 := n0_;have HB := n1_;clear n0_ n1_;clear hg hw hp_))
        go_roundg k1
        case measure => have := HK1.out;omega
        case rel => exact ⟨(y105),(wrap64 (x4_1 + 1)),(by first | rfl | (simp;done) | (simp [*];done)),H',⟨by have := HK1.out;omega⟩,⟨by (with_reducible repeat (first | apply Kd.jq | apply Kd.zx | apply Kd.jz));exact HO_3.out⟩,⟨by repeat (first | (with_reducible first | exact HB.out | apply qj | apply qz | apply qk) | exact HB.out)⟩⟩
       ·rw [if_neg c8] at H
        exact absurd H (by simp)
      ·rw [if_neg c7] at H
       exact absurd H (by simp)
     ·rw [if_neg c6] at H
      have c6b0 : decide (x4_1 < (l0.length : Int)) = false := decide_eq_false c6
      clear c6
      obtain rfl := Option.some.inj H
      go_wp2
      go_ret
      exact ⟨_,by first | rfl | (simp [*,jk,jj] <;> rfl),by (with_reducible repeat (first | apply Kd.jq | apply Kd.zx | apply Kd.jz));exact HO_3.out,by repeat (first | (with_reducible first | exact HB.out | apply qj | apply qz | apply qk) | exact HB.out)⟩
  ·rw [if_neg c3] at H
   exact absurd H (by simp)
 ·rw [if_neg c2] at H
  exact absurd H (by simp)
def qqj.l0 : Nat → List Int → List Int → Int → Option (Bool)
 | 0,_,_,_ => none
 | k + 1,x0,x1,x5 => if x5 < (x0.length : Int) then (if 0 ≤ x5 then (if x5 < (x1.length : Int) then (if (rd x0 x5) = (rd x1 x5) then (qqj.l0 k x0 x1 (wrap64 (x5 + 1))) else (some false)) else (none)) else (none)) else (some true)
def qqj.f (k : Nat) (l0 : List Int) (l1 : List Int) : Option (Bool) := if (l0.length : Int) = (l1.length : Int) then (qqj.l0 k l0 l1 0) else (some false)
set_option maxHeartbeats 8000000 in
set_option maxRecDepth 100000 in
theorem qqj.calls (k : Nat) (A0 : Option Addr) (c0 : Nat) (l0 : List Int) (A1 : Option Addr) (c1 : Nat) (l1 : List Int) (r : Bool) (w : World) (hr0 : Kd.C (Kd.int .u8) w A0 l0.length l0) (hc0 : l0.length ≤ c0) (hr1 : Kd.C (Kd.int .u8) w A1 l1.length l1) (hc1 : l1.length ≤ c1) (h : qqj.f k l0 l1 = some r) :
  Calls Tryz.prog 37 #[.slice A0 l0.length c0,.slice A1 l1.length c1] w fun e w' => e = .returned (.bool r) ∧ Drawn0 w w' := by
 have HR0 := qq.mk hr0
 have HC0 := qq.mk hc0
 clear hr0 hc0
 have HR1 := qq.mk hr1
 have HC1 := qq.mk hc1
 clear hr1 hc1
 have H : (if (l0.length : Int) = (l1.length : Int) then (qqj.l0 k l0 l1 0) else (some false)) = some r := h
 clear h
 by_cases c3 : (l0.length : Int) = (l1.length : Int)
 ·rw [if_pos c3] at H
  have c3b0 : ((l0.length : Int) == (l1.length : Int)) = true := beq_iff_eq.mpr c3
  have c3b1 : ((l0.length : Int) != (l1.length : Int)) = false := bne_eq_false_iff_eq.mpr c3
  have c3b2 : (l0.length == l1.length) = true := by first | simpa using c3 | (simp at c3 ⊢;omega)
  clear c3
  have H' := qq.mk H
  clear H
  go_enter Tryz.func37,Tryz.ntmps37
  go_wp2
  repeat (go_quiet (fail);try go_wp2)
  go_loopg [5] k (fun kq v5 w' => ∃ (x5_1 : Int),v5 = .int .i64 x5_1 ∧ qq (qqj.l0 kq l0 l1 x5_1 = some r) ∧ qq (kq ≤ k) ∧ Drawn0 w w')
  case atStart => exact ⟨(0),(by first | rfl | (simp;done) | (simp [*];done)),H',⟨Nat.le_refl _⟩,by repeat (first | exact Drawn0.refl _ | apply Drawn0.step)⟩
  case round =>
   clear H'
   try clear c1
   try clear p2
   try clear c3
   try clear c3b0
   try clear c3b1
   try clear c3b2
   obtain ⟨x5_1,rfl,HA,HK1,⟨m1,rfl⟩⟩ := hrel
   cases gk with
   | zero => exact absurd HA.out (by simp [qqj.l0])
   | succ k1 =>
    have H := HA.out
    clear HA
    simp only [qqj.l0] at H
    by_cases c4 : x5_1 < (l0.length : Int)
    ·rw [if_pos c4] at H
     have c4b0 : decide (x5_1 < (l0.length : Int)) = true := decide_eq_true c4
     clear c4
     by_cases c5 : 0 ≤ x5_1
     ·rw [if_pos c5] at H
      have c5b0 : decide (0 ≤ x5_1) = true := decide_eq_true c5
      clear c5
      by_cases c6 : x5_1 < (l1.length : Int)
      ·rw [if_pos c6] at H
       have c6b0 : decide (x5_1 < (l1.length : Int)) = true := decide_eq_true c6
       clear c6
       by_cases c7 : (rd l0 x5_1) = (rd l1 x5_1)
       ·rw [if_pos c7] at H
        have c7b0 : ((rd l0 x5_1) == (rd l1 x5_1)) = true := beq_iff_eq.mpr c7
        have c7b1 : ((rd l0 x5_1) != (rd l1 x5_1)) = false := bne_eq_false_iff_eq.mpr c7
        clear c7
        have H' := qq.mk H
        clear H
        have p101 : 0 ≤ (x5_1 : Int) := of_decide_eq_true (by assumption)
        have q101 : x5_1 < (l0.length : Int) := of_decide_eq_true (by assumption)
        obtain ⟨ad101,e101,hx101_0⟩ := Kd.at_int HR0.out x5_1 p101 q101
        cases e101
        replace p101 := eq_true p101
        replace q101 := eq_true q101
        have p102 : 0 ≤ (x5_1 : Int) := of_decide_eq_true (by assumption)
        have q102 : x5_1 < (l1.length : Int) := of_decide_eq_true (by assumption)
        obtain ⟨ad102,e102,hx102_0⟩ := Kd.at_int HR1.out x5_1 p102 q102
        cases e102
        replace p102 := eq_true p102
        replace q102 := eq_true q102
        go_wp2
        repeat (go_quiet (fail);try go_wp2)
        go_roundg k1
        case measure => have := HK1.out;omega
        case rel => exact ⟨(wrap64 (x5_1 + 1)),(by first | rfl | (simp;done) | (simp [*];done)),H',⟨by have := HK1.out;omega⟩,by repeat (first | exact Drawn0.refl _ | apply Drawn0.step)⟩
       ·rw [if_neg c7] at H
        have c7b0 : ((rd l0 x5_1) == (rd l1 x5_1)) = false := beq_eq_false_iff_ne.mpr c7
        have c7b1 : ((rd l0 x5_1) != (rd l1 x5_1)) = true := bne_iff_ne.mpr c7
        obtain rfl := Option.some.inj H
        have p101 : 0 ≤ (x5_1 : Int) := of_decide_eq_true (by assumption)
        have q101 : x5_1 < (l0.length : Int) := of_decide_eq_true (by assumption)
        obtain ⟨ad101,e101,hx101_0⟩ := Kd.at_int HR0.out x5_1 p101 q101
        cases e101
        replace p101 := eq_true p101
        replace q101 := eq_true q101
        have p102 : 0 ≤ (x5_1 : Int) := of_decide_eq_true (by assumption)
        have q102 : x5_1 < (l1.length : Int) := of_decide_eq_true (by assumption)
        obtain ⟨ad102,e102,hx102_0⟩ := Kd.at_int HR1.out x5_1 p102 q102
        cases e102
        replace p102 := eq_true p102
        replace q102 := eq_true q102
        go_wp2
        repeat (go_quiet (fail);try go_wp2)
        go_ret
        exact ⟨by first | rfl | (simp;done) | (simp [*];done),by repeat (first | exact Drawn0.refl _ | apply Drawn0.step)⟩
      ·rw [if_neg c6] at H
       exact absurd H (by simp)
     ·rw [if_neg c5] at H
      exact absurd H (by simp)
    ·rw [if_neg c4] at H
     have c4b0 : decide (x5_1 < (l0.length : Int)) = false := decide_eq_false c4
     clear c4
     obtain rfl := Option.some.inj H
     go_wp2
     repeat (go_quiet (fail);try go_wp2)
     go_ret
     exact ⟨by first | rfl | (simp;done) | (simp [*];done),by repeat (first | exact Drawn0.refl _ | apply Drawn0.step)⟩
 ·rw [if_neg c3] at H
  have c3b0 : ((l0.length : Int) == (l1.length : Int)) = false := beq_eq_false_iff_ne.mpr c3
  have c3b1 : ((l0.length : Int) != (l1.length : Int)) = true := bne_iff_ne.mpr c3
  have c3b2 : (l0.length == l1.length) = false := by first | simpa using c3 | (simp at c3 ⊢;omega)
  obtain rfl := Option.some.inj H
  go_enter Tryz.func37,Tryz.ntmps37
  go_wp2
  repeat (go_quiet (fail);try go_wp2)
  go_ret
  exact ⟨by first | rfl | (simp;done) | (simp [*];done),by repeat (first | exact Drawn0.refl _ | apply Drawn0.step)⟩
open Go.RowKit Go.Proofs.YtnbbbjfjkhglhaaGreatDoor.Read Go.Proofs.YtnbbbjfjkhglhaaGreatDoorW.PrintWords
theorem w64 {n : Int} (h0 : -9223372036854775808 ≤ n) (h1 : n ≤ 9223372036854775807) : wrap64 n = n := by unfold wrap64;omega
theorem rd_nat {l : List Int} {i : Nat} (h : i < l.length) : rd l (i : Int) = l[i] := by
 simp [rd,List.getD_eq_getElem?_getD,List.getElem?_eq_getElem h]
theorem toByteS_l0 (x0 : List Int) (hl : x0.length ≤ 281474976710656) (d : Nat) : ∀ (k i : Nat) (x3 : List Int),x0.length - i = d → i ≤ x0.length → x3.length = x0.length → d < k → qzw.l0 k x0 x3 i = some (x3.take i ++ x0.drop i) := by
 induction d with
 | zero =>
  intro k i x3 hd hi h3 hk
  obtain ⟨k,rfl⟩ : ∃ m,k = m + 1 := ⟨k - 1,by omega⟩
  simp only [qzw.l0]
  rw [if_neg (by omega),List.take_of_length_le (by omega),List.drop_of_length_le (by omega),List.append_nil]
 | succ d ih =>
  intro k i x3 hd hi h3 hk
  obtain ⟨k,rfl⟩ : ∃ m,k = m + 1 := ⟨k - 1,by omega⟩
  simp only [qzw.l0]
  rw [if_pos (by omega),if_pos (by omega),if_pos (by omega),w64 (by omega) (by omega)]
  have e := ih k (i + 1) (x3.set i (rd x0 i)) (by omega) (by omega) (by simpa using h3) (by omega)
  rw [Int.toNat_natCast]
  rw [show ((i : Int) + 1) = ((i + 1 : Nat) : Int) from rfl,e]
  congr 1
  have hlt : i < x0.length := by omega
  rw [List.take_succ_eq_append_getElem (by simp;omega),List.getElem_set_self,List.take_set_of_le (by omega),rd_nat hlt,List.append_assoc,List.singleton_append,← List.drop_eq_getElem_cons hlt]
theorem toByteS_ev (l : List Int) (hl : l.length ≤ 281474976710656) : Ev (fun k => qzw.f k l) l :=
 ⟨l.length + 1,fun k hk => by
  show qzw.f k l = some l
  unfold qzw.f
  rw [if_pos (by omega),if_pos (by omega)]
  have := toByteS_l0 l hl l.length k 0 (List.replicate ((l.length : Int)).toNat 0) (by omega) (by omega) (by simp) (by omega)
  simpa using this⟩
theorem eqByteS_l0 (x0 x1 : List Int) (hl : x0.length = x1.length) (hm : x0.length ≤ 281474976710656) (d : Nat) : ∀ (k i : Nat),x0.length - i = d → i ≤ x0.length → d < k → qqj.l0 k x0 x1 i = some (decide (x0.drop i = x1.drop i)) := by
 induction d with
 | zero =>
  intro k i hd hi hk
  obtain ⟨k,rfl⟩ : ∃ m,k = m + 1 := ⟨k - 1,by omega⟩
  simp only [qqj.l0]
  rw [if_neg (by omega),List.drop_of_length_le (by omega),List.drop_of_length_le (by omega)];simp
 | succ d ih =>
  intro k i hd hi hk
  obtain ⟨k,rfl⟩ : ∃ m,k = m + 1 := ⟨k - 1,by omega⟩
  simp only [qqj.l0]
  have h0 : i < x0.length := by omega
  have h1 : i < x1.length := by omega
  rw [if_pos (by omega),if_pos (by omega),if_pos (by omega),w64 (by omega) (by omega),rd_nat h0,rd_nat h1,List.drop_eq_getElem_cons h0,List.drop_eq_getElem_cons h1]
  have e := ih k (i + 1) (by omega) (by omega) (by omega)
  rw [show ((i : Int) + 1) = ((i + 1 : Nat) : Int) from rfl,e]
  by_cases hx : x0[i] = x1[i]
  ·rw [if_pos hx];congr 1;rw [decide_eq_decide,hx,List.cons.injEq];exact ⟨fun h => ⟨rfl,h⟩,fun h => h.2⟩
  ·rw [if_neg hx];congr 1;symm;rw [decide_eq_false_iff_not,List.cons.injEq];exact fun h => hx h.1
theorem eqByteS_ev (a b : List Int) (hl : a.length ≤ 281474976710656) : Ev (fun k => qqj.f k a b) (decide (a = b)) :=
 ⟨a.length + 1,fun k hk => by
  show qqj.f k a b = _
  unfold qqj.f
  by_cases h : a.length = b.length
  ·rw [if_pos (by omega)]
   have := eqByteS_l0 a b h hl a.length k 0 (by omega) (by omega) (by omega)
   simpa using this
  ·rw [if_neg (by omega)]
   have : a ≠ b := fun e => h (by rw [e])
   simp [this]⟩
theorem eqByteS_refl (a : List Int) (hl : a.length ≤ 281474976710656) : Ev (fun k => qqj.f k a a) true := by
 have := eqByteS_ev a a hl
 simpa using this
def mulT : List Int := [1103515245,69069,1664525,22695477]
structure OnlyB (w w' : World) (g : Nat) : Prop where
 os : w'.os = w.os
 tape : w'.tape = w.tape
 output : w'.output = w.output
 size : w'.heap.size = w.heap.size
 block : ∀ k,k ≠ g → w'.heap[k]? = w.heap[k]?
theorem OnlyB.refl (w : World) (g : Nat) : OnlyB w w g := ⟨rfl,rfl,rfl,rfl,fun _ _ => rfl⟩
theorem OnlyB.drew {w w' : World} {g : Nat} (h : OnlyB w w' g) : OnlyB w w'.drew g := ⟨h.os,h.tape,h.output,h.size,h.block⟩
theorem OnlyB.set {w w' : World} {g : Nat} (h : OnlyB w w' g) (j : Nat) (u : Value) : OnlyB w (w'.setCell ⟨g,j,none⟩ u) g :=
 ⟨h.os,h.tape,h.output,by simpa [World.setCell] using h.size,fun k hk => (Below.heap_setCell w' ⟨g,j,none⟩ u k hk).trans (h.block k hk)⟩
def isBytes (l : List Int) : Prop := ∀ x ∈ l,0 ≤ x ∧ x ≤ 255
instance (l : List Int) : Decidable (isBytes l) := by unfold isBytes;infer_instance
structure DigInv (w wr : World) (a : List Int) : Prop where
 A : wr.heap[w.heap.size]? = some (.cells (nums .i64 a).toArray 100 (0,0))
 M : wr.heap[w.heap.size + 1]? = some (.cells (nums .i64 mulT).toArray 100 (0,0))
 B : Below w.heap.size w wr
 len : a.length = 4
 bd : ∀ j,j < 4 → 0 ≤ a.getD j 0 ∧ a.getD j 0 < 2147483579
theorem DigInv.drew {w wr : World} {a : List Int} (h : DigInv w wr a) : DigInv w wr.drew a := ⟨h.A,h.M,h.B.drew,h.len,h.bd⟩
theorem DigInv.lt {w wr : World} {a : List Int} (h : DigInv w wr a) : w.heap.size + 2 ≤ wr.heap.size := blk_lt h.M
def qvv.f  : Option (ByteArray) := some (⟨#[48,49,50,51,52,53,54,55,56,57,97,98,99,100,101,102,103,104,105,106,107,108,109,110,111,112,113,114,115,116,117,118]⟩ : ByteArray)
set_option maxHeartbeats 8000000 in
set_option maxRecDepth 100000 in
theorem qvv.calls  (r : ByteArray) (w : World) (h : qvv.f  = some r) :
  Calls Tryz.prog 59 #[] w fun e w' => e = .returned (.string r) ∧ Drawn0 w w' := by
 have H : (some (⟨#[48,49,50,51,52,53,54,55,56,57,97,98,99,100,101,102,103,104,105,106,107,108,109,110,111,112,113,114,115,116,117,118]⟩ : ByteArray)) = some r := h
 clear h
 obtain rfl := Option.some.inj H
 go_enter Tryz.func59,Tryz.ntmps59
 go_wp2
 go_ret
 exact ⟨by first | rfl | (simp;done) | (simp [*];done),by repeat (first | exact Drawn0.refl _ | apply Drawn0.step)⟩
mutual
def qvk.l0 : Nat → List Int → List Int → Int → Option (ByteArray)
 | 0,_,_,_ => none
 | k + 1,x0,x3,x4 => if x4 < (wrap64 ((x0.length : Int) * 8)) then (qvk.l1 k x0 x3 x4 0 x4) else (some (strOfNums x3))
def qvk.l1 : Nat → List Int → List Int → Int → Int → Int → Option (ByteArray)
 | 0,_,_,_,_,_ => none
 | k + 1,x0,x3,x4,x5,x6 => if x6 < (wrap64 (x4 + 5)) then (if x6 < (wrap64 ((x0.length : Int) * 8)) then (if 0 ≤ (wrap64 (Int.tdiv x6 8)) then (if (wrap64 (Int.tdiv x6 8)) < (x0.length : Int) then (if 0 ≤ (IntKind.u64.wrap (wrap64 (7 - (Int.tmod x6 8)))) then (qvk.l1 k x0 x3 x4 (wrap64 ((wrap64 (x5 * 2)) + (Go.bits .and .i64 (shr .i64 (wrap64 (rd x0 (wrap64 (Int.tdiv x6 8)))) (IntKind.u64.wrap (wrap64 (7 - (Int.tmod x6 8))))) 1))) (wrap64 (x6 + 1))) else (none)) else (none)) else (none)) else (qvk.l1 k x0 x3 x4 (wrap64 (x5 * 2)) (wrap64 (x6 + 1)))) else ((qvv.f).bind fun t102 => (if 0 ≤ x5 then (if x5 < (t102.size : Int) then (if x3.length < 140737488355328 then (qvk.l0 k x0 (x3 ++ [bt t102 x5]) (wrap64 (x4 + 5))) else (none)) else (none)) else (none)))
end
def qvk.f (k : Nat) (l0 : List Int) : Option (ByteArray) := qvk.l0 k l0 ([] : List Int) 0
set_option maxHeartbeats 8000000 in
set_option maxRecDepth 100000 in
theorem qvk.calls (k : Nat) (A0 : Option Addr) (c0 : Nat) (l0 : List Int) (r : ByteArray) (w : World) (hr0 : Kd.C (Kd.int .u8) w A0 l0.length l0) (hc0 : l0.length ≤ c0) (h : qvk.f k l0 = some r) :
  Calls Tryz.prog 29 #[.slice A0 l0.length c0] w fun e w' => e = .returned (.string r) ∧ Below w.heap.size w w' := by
 have HR0 := qq.mk hr0
 have HC0 := qq.mk hc0
 clear hr0 hc0
 have HB := qq.mk (Below.refl w.heap.size w)
 have H : (qvk.l0 k l0 ([] : List Int) 0) = some r := h
 clear h
 have H' := qq.mk H
 clear H
 go_enter Tryz.func29,Tryz.ntmps29
 go_wp2
 go_loopg [3,4] k (fun kq v3 v4 w' => ∃ (x3_1 : List Int) (x4_1 : Int),v4 = .int .i64 x4_1 ∧ qq (qvk.l0 kq l0 x3_1 x4_1 = some r) ∧ qq (kq ≤ k) ∧ qq (Kd.R (Kd.int .u8) 5 w' w.heap.size (fun _ => True) v3 x3_1) ∧ qq (Below w.heap.size w w'))
 case atStart => exact ⟨(([] : List Int)),(0),(by first | rfl | (simp;done) | (simp [*];done)),H',⟨Nat.le_refl _⟩,⟨by first | exact Kd.R_nil _ _ _ _ _ | exact Kd.N_nil _ _ _ _ _ | exact Kd.V_nil _ _ _ _ _ | exact Kd.Q_nil _ _ _ _ _ | exact Kd.S_nil _ _ _ _ _⟩,⟨by repeat (first | (with_reducible first | exact HB.out | apply qj | apply qz | apply qk) | exact HB.out)⟩⟩
 case round =>
  clear H'
  obtain ⟨x3_1,x4_1,rfl,HA,HK1,HO_3,HB⟩ := hrel
  cases gk with
  | zero => exact absurd HA.out (by simp [qvk.l0])
  | succ k1 =>
   have H := HA.out
   clear HA
   simp only [qvk.l0] at H
   by_cases c2 : x4_1 < (wrap64 ((l0.length : Int) * 8))
   ·rw [if_pos c2] at H
    have c2b0 : decide (x4_1 < (wrap64 ((l0.length : Int) * 8))) = true := decide_eq_true c2
    clear c2
    have H' := qq.mk H
    clear H
    go_wp2
    go_loopg [5,6] k1 (fun kq v5 v6 w' => ∃ (x5_2 : Int) (x6_2 : Int),v5 = .int .i64 x5_2 ∧ v6 = .int .i64 x6_2 ∧ qq (qvk.l1 kq l0 x3_1 x4_1 x5_2 x6_2 = some r) ∧ qq (kq ≤ k1) ∧ qq (Kd.R (Kd.int .u8) 5 w' w.heap.size (fun _ => True) u3 x3_1) ∧ qq (Below w.heap.size w w'))
    case atStart => exact ⟨(0),(x4_1),(by first | rfl | (simp;done) | (simp [*];done)),(by first | rfl | (simp;done) | (simp [*];done)),H',⟨Nat.le_refl _⟩,⟨by (with_reducible repeat (first | apply Kd.jq | apply Kd.zx | apply Kd.jz));exact HO_3.out⟩,⟨by repeat (first | (with_reducible first | exact HB.out | apply qj | apply qz | apply qk) | exact HB.out)⟩⟩
    case round =>
     clear H'
     try clear c2
     try clear c2b0
     try clear p2
     obtain ⟨x5_2,x6_2,rfl,rfl,HA,HK2,HO_3,HB⟩ := hrel
     cases gk with
     | zero => exact absurd HA.out (by simp [qvk.l1])
     | succ k2 =>
      have H := HA.out
      clear HA
      simp only [qvk.l1] at H
      by_cases c3 : x6_2 < (wrap64 (x4_1 + 5))
      ·rw [if_pos c3] at H
       have c3b0 : decide (x6_2 < (wrap64 (x4_1 + 5))) = true := decide_eq_true c3
       clear c3
       by_cases c4 : x6_2 < (wrap64 ((l0.length : Int) * 8))
       ·rw [if_pos c4] at H
        have c4b0 : decide (x6_2 < (wrap64 ((l0.length : Int) * 8))) = true := decide_eq_true c4
        clear c4
        obtain ⟨ji5,hji5⟩ : ∃ j_ : Int,(wrap64 (Int.tdiv x6_2 8)) = j_ := ⟨_,rfl⟩
        replace H : (if 0 ≤ (ji5) then (if (ji5) < (l0.length : Int) then (if 0 ≤ (IntKind.u64.wrap (wrap64 (7 - (Int.tmod x6_2 8)))) then (qvk.l1 k2 l0 x3_1 x4_1 (wrap64 ((wrap64 (x5_2 * 2)) + (Go.bits .and .i64 (shr .i64 (wrap64 (rd l0 (ji5))) (IntKind.u64.wrap (wrap64 (7 - (Int.tmod x6_2 8))))) 1))) (wrap64 (x6_2 + 1))) else (none)) else (none)) else (none)) = some r := by first | (rw [hji5] at H;exact H) | (simp only [hji5] at H ⊢;exact H)
        have hji5w : (IntKind.i64.wrap (Int.tdiv x6_2 8)) = ji5 := (i64_w _).trans hji5
        by_cases c6 : 0 ≤ (ji5)
        ·rw [if_pos c6] at H
         have c6b0 : decide (0 ≤ (ji5)) = true := decide_eq_true c6
         clear c6
         by_cases c7 : (ji5) < (l0.length : Int)
         ·rw [if_pos c7] at H
          have c7b0 : decide ((ji5) < (l0.length : Int)) = true := decide_eq_true c7
          clear c7
          obtain ⟨ji8,hji8⟩ : ∃ j_ : Int,(IntKind.u64.wrap (wrap64 (7 - (Int.tmod x6_2 8)))) = j_ := ⟨_,rfl⟩
          replace H : (if 0 ≤ (ji8) then (qvk.l1 k2 l0 x3_1 x4_1 (wrap64 ((wrap64 (x5_2 * 2)) + (Go.bits .and .i64 (shr .i64 (wrap64 (rd l0 (ji5))) (ji8)) 1))) (wrap64 (x6_2 + 1))) else (none)) = some r := by first | (rw [hji8] at H;exact H) | (simp only [hji8] at H ⊢;exact H)
          by_cases c9 : 0 ≤ (ji8)
          ·rw [if_pos c9] at H
           have c9b0 := eq_true c9
           have c9b1 : decide (0 ≤ (ji8)) = true := decide_eq_true c9
           clear c9
           obtain ⟨ji10,hji10⟩ : ∃ j_ : Int,(shr .i64 (wrap64 (rd l0 (ji5))) (ji8)) = j_ := ⟨_,rfl⟩
           replace H : (qvk.l1 k2 l0 x3_1 x4_1 (wrap64 ((wrap64 (x5_2 * 2)) + (Go.bits .and .i64 (ji10) 1))) (wrap64 (x6_2 + 1))) = some r := by first | (rw [hji10] at H;exact H) | (simp only [hji10] at H ⊢;exact H)
           have hji10_ : ((wrap64 (rd l0 (ji5))) / 2 ^ min (ji8).toNat 64) = ji10 := hji10
           have hji10z : (ji8) ≤ 64 → ((wrap64 (rd l0 (ji5))) / 2 ^ (ji8).toNat) = ji10 := shr_small hji10
           have H' := qq.mk H
           clear H
           have p101 : 0 ≤ ((ji5) : Int) := of_decide_eq_true (by assumption)
           have q101 : (ji5) < (l0.length : Int) := of_decide_eq_true (by assumption)
           obtain ⟨ad101,e101,hx101_0⟩ := Kd.at_int HR0.out (ji5) p101 q101
           cases e101
           replace hx101_0 := (HB.out.cell (World.block_lt_of_cell? w _ hx101_0)).trans hx101_0
           replace p101 := eq_true p101
           replace q101 := eq_true q101
           go_wp2
           go_roundg k2
           case measure => have := HK1.out;have := HK2.out;omega
           case rel => exact ⟨(wrap64 ((wrap64 (x5_2 * 2)) + (Go.bits .and .i64 (ji10) 1))),(wrap64 (x6_2 + 1)),(by first | rfl | (simp;done) | (simp only [← hji10] <;> (first | rfl | simp)) | (simp [*];done)),(by first | rfl | (simp;done) | (simp [*];done)),H',⟨by have := HK1.out;have := HK2.out;omega⟩,⟨by (with_reducible repeat (first | apply Kd.jq | apply Kd.zx | apply Kd.jz));exact HO_3.out⟩,⟨by repeat (first | (with_reducible first | exact HB.out | apply qj | apply qz | apply qk) | exact HB.out)⟩⟩
          ·rw [if_neg c9] at H
           exact absurd H (by simp)
         ·rw [if_neg c7] at H
          exact absurd H (by simp)
        ·rw [if_neg c6] at H
         exact absurd H (by simp)
       ·rw [if_neg c4] at H
        have c4b0 : decide (x6_2 < (wrap64 ((l0.length : Int) * 8))) = false := decide_eq_false c4
        clear c4
        have H' := qq.mk H
        clear H
        go_wp2
        go_roundg k2
        case measure => have := HK1.out;have := HK2.out;omega
        case rel => exact ⟨(wrap64 (x5_2 * 2)),(wrap64 (x6_2 + 1)),(by first | rfl | (simp;done) | (simp [*];done)),(by first | rfl | (simp;done) | (simp [*];done)),H',⟨by have := HK1.out;have := HK2.out;omega⟩,⟨by (with_reducible repeat (first | apply Kd.jq | apply Kd.zx | apply Kd.jz));exact HO_3.out⟩,⟨by repeat (first | (with_reducible first | exact HB.out | apply qj | apply qz | apply qk) | exact HB.out)⟩⟩
      ·rw [if_neg c3] at H
       have c3b0 : decide (x6_2 < (wrap64 (x4_1 + 5))) = false := decide_eq_false c3
       clear c3
       replace H := Option.bind_eq_some_iff.mp H
       obtain ⟨t102,A110,H⟩ := H
       replace H : (if 0 ≤ x5_2 then (if x5_2 < (t102.size : Int) then (if x3_1.length < 140737488355328 then (qvk.l0 k2 l0 (x3_1 ++ [bt t102 x5_2]) (wrap64 (x4_1 + 5))) else (none)) else (none)) else (none)) = some r := H
       have A11 := qq.mk A110
       clear A110
       by_cases c12 : 0 ≤ x5_2
       ·rw [if_pos c12] at H
        have c12b0 : decide (0 ≤ x5_2) = true := decide_eq_true c12
        clear c12
        by_cases c13 : x5_2 < (t102.size : Int)
        ·rw [if_pos c13] at H
         have c13b0 : decide (x5_2 < (t102.size : Int)) = true := decide_eq_true c13
         clear c13
         by_cases c15 : x3_1.length < 140737488355328
         ·rw [if_pos c15] at H
          have LMc15 := qq.mk c15
          clear c15
          obtain ⟨y103,hy103⟩ : ∃ y_ : List Int,y_ = (x3_1 ++ [bt t102 x5_2]) := ⟨_,rfl⟩
          replace H : (qvk.l0 k2 l0 y103 (wrap64 (x4_1 + 5))) = some r := by first | (rw [hy103];with_reducible exact H) | (have H2_ := (Option.bind_some _ _).symm.trans H;rw [hy103];with_reducible exact H2_) | (have H2_ := (Option.bind_some _ _).symm.trans H;with_reducible exact H2_) | with_reducible exact H | (rw [hy103];exact H) | exact H
          have Ny103 := qq.mk hy103
          clear hy103
          have H' := qq.mk H
          clear H
          go_wp2_with (first | ((with_reducible refine jv (f := 59) rfl ?_);refine goesL_ (some 43) rfl rfl Tryz.func59 (by kernel_rfl) rfl #[] rfl (by (try simp only [List.map_toArray,List.map_cons,List.map_nil]);first | done | rfl | (simp only [List.length_drop,List.length_take];rfl)) ?_;(with_reducible refine (qvv.calls  t102 _ A11.out).mono ?_);rintro e w' ⟨rfl,⟨nd,rfl⟩⟩;refine ⟨_,rfl,?_⟩;have p14 : 0 ≤ (x5_2 : Int) := of_decide_eq_true (by assumption);have q14 : x5_2 < (t102.size : Int) := of_decide_eq_true (by assumption);have hx14 := bt_at t102 x5_2;replace p14 := eq_true p14;replace q14 := eq_true q14) | ((with_reducible refine gate_builtin (b := .append) (xs := #[.tmp 42,.tmp 46]) rfl ?_);at_builtin;refine Kd.R_append (Kd.int .u8) (w0 := w) w.heap.size rfl (.tmp 42) (.tmp 46) 34 5 (.int .u8 0) 1 rfl Tryz.underlying34 info5 rfl (by decide) (by omega) u3 x3_1 (bt t102 x5_2) [.int .u8 (bt t102 x5_2)] (fun _ => True) (fun _ => False) rfl rfl ?aP (fun _ hk => hk.elim) ?aF ?aO ?aB ?aS ?aL ?_;(case aP => exact rfl);(case aB => exact (by repeat (first | (with_reducible first | exact HB.out | apply qj | apply qz | apply qk) | exact HB.out)));(case aF => exact (fun _ _ => trivial));(case aO => exact (by (with_reducible repeat (first | apply Kd.jq | apply Kd.zx | apply Kd.jz));exact HO_3.out));(case aS => exact (zw (by repeat (first | (with_reducible first | exact HB.out | apply qj | apply qz | apply qk) | exact HB.out))));(case aL => have := LMc15.out;omega);intro v104 w16 ho hb hg hat;rw [← Ny103.out] at ho;have n0_ := qq.mk (hb);have n1_ := qq.mk (ho);clear HB;clear HO_3;have HB := n0_;have HO105 := n1_;clear n0_ n1_;clear ho hb hg hat))
          go_roundg k2
          case measure => have := HK1.out;have := HK2.out;omega
          case rel => exact ⟨(y103),(wrap64 (x4_1 + 5)),(by first | rfl | (simp;done) | (simp [*];done)),H',⟨by have := HK1.out;have := HK2.out;omega⟩,⟨by (with_reducible repeat (first | apply Kd.jq | apply Kd.zx | apply Kd.jz));exact HO105.out⟩,⟨by repeat (first | (with_reducible first | exact HB.out | apply qj | apply qz | apply qk) | exact HB.out)⟩⟩
         ·rw [if_neg c15] at H
          exact absurd H (by simp)
        ·rw [if_neg c13] at H
         exact absurd H (by simp)
       ·rw [if_neg c12] at H
        exact absurd H (by simp)
   ·rw [if_neg c2] at H
    have c2b0 : decide (x4_1 < (wrap64 ((l0.length : Int) * 8))) = false := decide_eq_false c2
    clear c2
    obtain rfl := Option.some.inj H
    have hcv17 := own_string (P := Tryz.prog) Tryz.underlying34 Tryz.underlying5 Tryz.underlying9 (Kd.own_of_R HO_3.out)
    go_wp2
    go_ret
    exact ⟨by first | rfl | (simp [*,jk,jj] <;> rfl),by repeat (first | (with_reducible first | exact HB.out | apply qj | apply qz | apply qk) | exact HB.out)⟩
end Go.Proofs.YtnbbbjfjkhglhaaGreatDoor.Pr
namespace Go.Proofs.YtnbbbjfjkhglhaaGreatDoor.Pr
open Go.RowKit Go.Proofs.YtnbbbjfjkhglhaaGreatDoor.Read Go.Proofs.YtnbbbjfjkhglhaaGreatDoorW.PrintWords
set_option linter.unusedVariables false
def bitv (data : List Int) (i : Nat) : Int := if i / 8 < data.length then rd data ((i / 8 : Nat) : Int) / 2 ^ (7 - i % 8) % 2 else 0
def val (data : List Int) (i : Nat) : Nat → Int
 | 0 => 0
 | n + 1 => 2 * val data i n + bitv data (i + n)
theorem bitv_range (data : List Int) (i : Nat) : 0 ≤ bitv data i ∧ bitv data i ≤ 1 := by
 unfold bitv
 split
 ·omega
 ·omega
theorem val_range (data : List Int) (i : Nat) : ∀ n,0 ≤ val data i n ∧ val data i n < 2 ^ n
 | 0 => by simp [val]
 | n + 1 => by
  have h := val_range data i n
  have hb := bitv_range data (i + n)
  rw [val,Int.pow_succ]
  omega
theorem val_add (data : List Int) (i n : Nat) : ∀ m,val data i (n + m) = val data i n * 2 ^ m + val data (i + n) m
 | 0 => by simp [val]
 | m + 1 => by
  rw [show n + (m + 1) = (n + m) + 1 by omega,val,val_add data i n m,val,Int.pow_succ,Nat.add_assoc,Int.mul_add,Int.add_assoc]
  congr 1
  rw [← Int.mul_assoc,Int.mul_comm 2,Int.mul_assoc,Int.mul_comm 2]
theorem val_end (data : List Int) (i : Nat) (h : 8 * data.length ≤ i) : ∀ n,val data i n = 0
 | 0 => rfl
 | n + 1 => by
  rw [val,val_end data i h n]
  unfold bitv
  rw [if_neg (by omega)]
  rfl
theorem rd_byte {data : List Int} (hb : isBytes data) {m : Nat} (hm : m < data.length) : 0 ≤ rd data (m : Int) ∧ rd data (m : Int) ≤ 255 := by
 rw [rd_nat hm]
 have := hb _ (List.getElem_mem hm)
 omega
theorem val_byte (data : List Int) (hb : isBytes data) (m : Nat) (hm : m < data.length) : val data (8 * m) 8 = rd data (m : Int) := by
 have hr := rd_byte hb hm
 have e : ∀ j,j < 8 → bitv data (8 * m + j) = rd data (m : Int) / 2 ^ (7 - j) % 2 := fun j hj => by
  unfold bitv
  rw [show (8 * m + j) / 8 = m by omega,show (8 * m + j) % 8 = j by omega,if_pos hm]
 simp only [val,e 0 (by omega),e 1 (by omega),e 2 (by omega),e 3 (by omega),e 4 (by omega),e 5 (by omega),e 6 (by omega),e 7 (by omega)]
 simp only [show (7 - 0 : Nat) = 7 from rfl,show (7 - 1 : Nat) = 6 from rfl,show (7 - 2 : Nat) = 5 from rfl,show (7 - 3 : Nat) = 4 from rfl,show (7 - 4 : Nat) = 3 from rfl,show (7 - 5 : Nat) = 2 from rfl,show (7 - 6 : Nat) = 1 from rfl,show (7 - 7 : Nat) = 0 from rfl]
 omega
def lettersB : ByteArray := ⟨#[48,49,50,51,52,53,54,55,56,57,97,98,99,100,101,102,103,104,105,106,107,108,109,110,111,112,113,114,115,116,117,118]⟩
def letU (n : Int) : UInt8 := lettersB.data.getD n.toNat 0
theorem letU_fin : ∀ n : Fin 32,bt lettersB ((n.val : Nat) : Int) = ((letU ((n.val : Nat) : Int)).toNat : Int) := by decide +kernel
theorem bt_let {n : Int} (h0 : 0 ≤ n) (h1 : n < 32) : bt lettersB n = ((letU n).toNat : Int) := by
 obtain ⟨m,rfl⟩ := Int.eq_ofNat_of_zero_le h0
 exact letU_fin ⟨m,by omega⟩
def armU (data : List Int) : Nat → List UInt8
 | 0 => []
 | n + 1 => armU data n ++ [letU (val data (5 * n) 5)]
theorem armU_len (data : List Int) : ∀ n,(armU data n).length = n
 | 0 => rfl
 | n + 1 => by simp [armU,armU_len data n]
def armN (data : List Int) : Nat := (8 * data.length + 4) / 5
def armB (data : List Int) : ByteArray := ⟨(armU data (armN data)).toArray⟩
def numsOf (l : List UInt8) : List Int := l.map fun u => (u.toNat : Int)
theorem str_nums (l : List UInt8) : strOfNums (numsOf l) = ⟨l.toArray⟩ := by
 unfold strOfNums numsOf
 congr 1
 congr 1
 rw [List.map_map]
 conv => rhs;rw [← List.map_id l]
 congr 1
 funext u
 simp
theorem bit_fin : ∀ x : Fin 256,∀ s : Fin 8,Go.bits .and .i64 (shr .i64 (wrap64 ((x.val : Nat) : Int)) (IntKind.u64.wrap (((7 - s.val : Nat) : Nat) : Int))) 1 = ((x.val : Nat) : Int) / 2 ^ (7 - s.val) % 2 := by decide +kernel
theorem sArmor_l1 (data : List Int) (hb : isBytes data) (hl : data.length ≤ 1000000) (q : Nat) (hq : 5 * q < 8 * data.length) (x3 : List Int) (hx : x3.length = q) (d : Nat) : ∀ (k j : Nat),j + d = 5 → qvk.l1 (k + d + 1) data x3 ((5 * q : Nat) : Int) (val data (5 * q) j) ((5 * q + j : Nat) : Int) = qvk.l0 k data (x3 ++ [((letU (val data (5 * q) 5)).toNat : Int)]) ((5 * (q + 1) : Nat) : Int) := by
 have w5 : wrap64 (((5 * q : Nat) : Int) + 5) = ((5 * q + 5 : Nat) : Int) := by rw [w64 (by omega) (by omega)];omega
 have w8 : wrap64 ((data.length : Int) * 8) = ((8 * data.length : Nat) : Int) := by rw [w64 (by omega) (by omega)];omega
 induction d with
 | zero =>
  intro k j hj
  obtain rfl : j = 5 := by omega
  have hv := val_range data (5 * q) 5
  have h32 : val data (5 * q) 5 < 32 := by have := hv.2;omega
  simp only [qvk.l1,w5,if_neg (show ¬ (((5 * q + 5 : Nat) : Int) < ((5 * q + 5 : Nat) : Int)) by omega)]
  rw [show qvv.f = some lettersB from rfl,Option.bind_some,if_pos hv.1,if_pos (show val data (5 * q) 5 < (lettersB.size : Int) from h32),if_pos (by omega),bt_let hv.1 h32]
  rfl
 | succ d ih =>
  intro k j hj
  have hv := val_range data (5 * q) j
  have hp : (2 : Int) ^ j ≤ 16 := by
   rcases j with _ | _ | _ | _ | _ | j
   ·decide
   ·decide
   ·decide
   ·decide
   ·decide
   ·omega
  have e1 : wrap64 (((5 * q + j : Nat) : Int) + 1) = ((5 * q + (j + 1) : Nat) : Int) := by rw [w64 (by omega) (by omega)];omega
  have e2 : wrap64 (val data (5 * q) j * 2) = 2 * val data (5 * q) j := by rw [w64 (by omega) (by omega)];omega
  have ih2 := ih k (j + 1) (by omega)
  rw [show k + (d + 1) + 1 = (k + d + 1) + 1 by omega]
  generalize k + d + 1 = K at ih2 ⊢
  simp only [qvk.l1,w5,w8,if_pos (show ((5 * q + j : Nat) : Int) < ((5 * q + 5 : Nat) : Int) by omega),e1,e2]
  have hval : val data (5 * q) (j + 1) = 2 * val data (5 * q) j + bitv data (5 * q + j) := rfl
  by_cases hin : 5 * q + j < 8 * data.length
  ·have et : wrap64 (Int.tdiv ((5 * q + j : Nat) : Int) 8) = (((5 * q + j) / 8 : Nat) : Int) := by
    rw [Int.tdiv_eq_ediv_of_nonneg (by omega),w64 (by omega) (by omega)];omega
   have em : Int.tmod ((5 * q + j : Nat) : Int) 8 = (((5 * q + j) % 8 : Nat) : Int) := by
    rw [Int.tmod_eq_emod_of_nonneg (by omega)];omega
   have e7 : wrap64 (7 - (((5 * q + j) % 8 : Nat) : Int)) = ((7 - (5 * q + j) % 8 : Nat) : Int) := by rw [w64 (by omega) (by omega)];omega
   have eu : IntKind.u64.wrap ((7 - (5 * q + j) % 8 : Nat) : Int) = ((7 - (5 * q + j) % 8 : Nat) : Int) := IntWalk.u64_in _ (by omega)
   have hm : (5 * q + j) / 8 < data.length := by omega
   have hr := rd_byte hb hm
   obtain ⟨x,hx2⟩ := Int.eq_ofNat_of_zero_le hr.1
   have hbit := bit_fin ⟨x,by omega⟩ ⟨(5 * q + j) % 8,by omega⟩
   simp only [← hx2] at hbit
   rw [eu] at hbit
   have hbv : bitv data (5 * q + j) = rd data (((5 * q + j) / 8 : Nat) : Int) / 2 ^ (7 - (5 * q + j) % 8) % 2 := by
    unfold bitv
    rw [if_pos hm]
   simp only [if_pos (show ((5 * q + j : Nat) : Int) < ((8 * data.length : Nat) : Int) by omega),et,em,e7,eu,if_pos (show (0 : Int) ≤ (((5 * q + j) / 8 : Nat) : Int) by omega),if_pos (show (((5 * q + j) / 8 : Nat) : Int) < (data.length : Int) by omega),if_pos (show (0 : Int) ≤ ((7 - (5 * q + j) % 8 : Nat) : Int) by omega),hbit,← hbv]
   have hbr := bitv_range data (5 * q + j)
   rw [w64 (by omega) (by omega),← hval]
   exact ih2
  ·have hz : bitv data (5 * q + j) = 0 := by unfold bitv;rw [if_neg (by omega)]
   rw [hz,Int.add_zero] at hval
   rw [if_neg (by omega),← hval]
   exact ih2
theorem sArmor_l0 (data : List Int) (hb : isBytes data) (hl : data.length ≤ 1000000) (d : Nat) : ∀ (k q : Nat),q + d = armN data → 7 * d < k → qvk.l0 k data (numsOf (armU data q)) ((5 * q : Nat) : Int) = some (armB data) := by
 have w8 : wrap64 ((data.length : Int) * 8) = ((8 * data.length : Nat) : Int) := by rw [w64 (by omega) (by omega)];omega
 induction d with
 | zero =>
  intro k q hq hk
  obtain ⟨k,rfl⟩ : ∃ m,k = m + 1 := ⟨k - 1,by omega⟩
  simp only [qvk.l0,w8,if_neg (show ¬ (((5 * q : Nat) : Int) < ((8 * data.length : Nat) : Int)) by unfold armN at hq;omega),str_nums]
  rw [show q = armN data by omega]
  rfl
 | succ d ih =>
  intro k q hq hk
  obtain ⟨k,rfl⟩ : ∃ m,k = m + 1 + 5 + 1 := ⟨k - 7,by omega⟩
  have h8 : 5 * q < 8 * data.length := by unfold armN at hq;omega
  simp only [qvk.l0,w8,if_pos (show ((5 * q : Nat) : Int) < ((8 * data.length : Nat) : Int) by omega)]
  have := sArmor_l1 data hb hl q h8 (numsOf (armU data q)) (by simp [numsOf,armU_len]) 5 k 0 (by omega)
  refine this.trans ?_
  rw [show numsOf (armU data q) ++ [((letU (val data (5 * q) 5)).toNat : Int)] = numsOf (armU data (q + 1)) by simp [numsOf,armU]]
  exact ih k (q + 1) (by omega) (by omega)
theorem specArmor_ev (data : List Int) (hb : isBytes data) (hl : data.length ≤ 1000000) : Ev (fun k => qvk.f k data) (armB data) :=
 ⟨7 * armN data + 1,fun k hk => sArmor_l0 data hb hl (armN data) k 0 (by omega) (by omega)⟩
theorem i64_small (n : Int) (h0 : 0 ≤ n) (h1 : n < 2 ^ 40) : IntKind.i64.wrap n = n := IntWalk.i64_in _ (by omega)
theorem shr_natc (e n : Nat) (hn : n ≤ 64) : shr .i64 (e : Int) (n : Int) = ((e / 2 ^ n : Nat) : Int) := by
 unfold shr
 rw [Int.toNat_natCast,Nat.min_eq_left (show n ≤ IntKind.i64.bits from hn)]
 simp
theorem val_split (data : List Int) (i n m : Nat) : val data i (n + m) / 2 ^ m = val data i n ∧ val data i (n + m) % 2 ^ m = val data (i + n) m := by
 have h := val_range data (i + n) m
 have hp : (0 : Int) < 2 ^ m := Int.pow_pos (by decide)
 rw [val_add,Int.add_comm]
 constructor
 ·rw [Int.add_mul_ediv_right _ _ (by omega),Int.ediv_eq_zero_of_lt h.1 h.2,Int.zero_add]
 ·rw [Int.add_mul_emod_self_right,Int.emod_eq_of_lt h.1 h.2]
theorem val_or (data : List Int) (hb : isBytes data) (i s : Nat) (hi : i < data.length) (hs : s ≤ 8 * i) (hs2 : 8 * i ≤ s + 4) : Go.bits .or .i64 (val data s (8 * i - s) * 256) (rd data (i : Int)) = val data s (8 * (i + 1) - s) := by
 have h := val_range data s (8 * i - s)
 have hr := rd_byte hb hi
 have hp : (2 : Int) ^ (8 * i - s) ≤ 16 := by
  obtain ⟨m,hm⟩ : ∃ m,m = 8 * i - s := ⟨_,rfl⟩
  rw [← hm]
  rcases m with _ | _ | _ | _ | _ | m
  ·decide
  ·decide
  ·decide
  ·decide
  ·decide
  ·omega
 rw [Go.bits_join .i64 40 (by decide) i64_small 8 _ _ (by omega) (by omega) (by omega) hr.1 (by omega) (by omega)]
 rw [show 8 * (i + 1) - s = (8 * i - s) + 8 by omega,val_add,show s + (8 * i - s) = 8 * i by omega,val_byte data hb i hi]
 rfl
theorem val_letter (data : List Int) (s q e : Nat) (h1 : s ≤ 5 * q) (h2 : 5 * q + 5 ≤ e) (h3 : e ≤ s + 12) : Go.bits .and .i64 (shr .i64 (val data s (e - s)) ((e - (5 * q + 5) : Nat) : Int)) 31 = val data (5 * q) 5 := by
 have h := val_range data s (e - s)
 obtain ⟨v,hv⟩ := Int.eq_ofNat_of_zero_le h.1
 have hs := (val_split data s (5 * q + 5 - s) (e - (5 * q + 5))).1
 rw [show 5 * q + 5 - s + (e - (5 * q + 5)) = e - s by omega] at hs
 have hs2 := val_split data s (5 * q - s) 5
 rw [show 5 * q - s + 5 = 5 * q + 5 - s by omega,show s + (5 * q - s) = 5 * q by omega] at hs2
 have hlt := val_range data s (5 * q + 5 - s)
 have hp : (2 : Int) ^ (5 * q + 5 - s) ≤ 2 ^ 12 := by
  have := Nat.pow_le_pow_right (show 0 < 2 by decide) (show 5 * q + 5 - s ≤ 12 by omega)
  exact_mod_cast this
 have e1 : shr .i64 (val data s (e - s)) ((e - (5 * q + 5) : Nat) : Int) = val data s (5 * q + 5 - s) := by
  rw [← hs,hv,shr_natc _ _ (by omega)]
  simp
 rw [e1,show (31 : Int) = 2 ^ 5 - 1 by decide,Go.bits_mask .i64 40 (by decide) i64_small 5 (by decide) _ hlt.1 (by omega)]
 exact hs2.2
theorem val_mask (data : List Int) (s q e : Nat) (h1 : s ≤ 5 * q) (h2 : 5 * q ≤ e) (h3 : e ≤ s + 12) : Go.bits .and .i64 (val data s (e - s)) (2 ^ (e - 5 * q) - 1) = val data (5 * q) (e - 5 * q) := by
 have h := val_range data s (e - s)
 have hs := (val_split data s (5 * q - s) (e - 5 * q)).2
 rw [show 5 * q - s + (e - 5 * q) = e - s by omega,show s + (5 * q - s) = 5 * q by omega] at hs
 have hp : (2 : Int) ^ (e - s) ≤ 2 ^ 12 := by
  have := Nat.pow_le_pow_right (show 0 < 2 by decide) (show e - s ≤ 12 by omega)
  exact_mod_cast this
 rw [Go.bits_mask .i64 40 (by decide) i64_small (e - 5 * q) (by omega) _ h.1 (by omega)]
 exact hs
theorem val_last (data : List Int) (q b : Nat) (h : 8 * data.length = 5 * q + b) (hb : b ≤ 5) : val data (5 * q) b * 2 ^ (5 - b) = val data (5 * q) 5 := by
 have e := val_add data (5 * q) b (5 - b)
 rw [show b + (5 - b) = 5 by omega,val_end data (5 * q + b) (by omega),Int.add_zero] at e
 exact e.symm
theorem and31 (n : Int) (h0 : 0 ≤ n) (h1 : n < 32) : Go.bits .and .i64 n 31 = n := by
 rw [show (31 : Int) = 2 ^ 5 - 1 by decide,Go.bits_mask .i64 40 (by decide) i64_small 5 (by decide) _ h0 (by omega)]
 exact Int.emod_eq_of_lt h0 h1
end Go.Proofs.YtnbbbjfjkhglhaaGreatDoor.Pr
namespace Go.Proofs.YtnbbbjfjkhglhaaGreatDoor.Pr
open Go.RowKit Go.Proofs.YtnbbbjfjkhglhaaGreatDoor.Read Go.Proofs.YtnbbbjfjkhglhaaGreatDoorW.PrintWords Go.Proofs.YtnbbbjfjkhglhaaGreatDoorW.PrintLast Go.Proofs.YtnbbbjfjkhglhaaGreatDoorW.PrintMore
set_option linter.unusedVariables false
instance (l : List Int) : Decidable (isBytes l) := by unfold isBytes;infer_instance
def vw.f (l0 : List Int) : Option ByteArray := if isBytes l0 then some (if (l0.length : Int) > 20000 then ⟨#[]⟩ else armB l0) else none
set_option maxHeartbeats 4000000 in
set_option maxRecDepth 100000 in
theorem vw.calls (A0 : Option Addr) (c0 : Nat) (l0 : List Int) (r : ByteArray) (w : World) (hr0 : Kd.C (Kd.int .u8) w A0 l0.length l0) (hc0 : l0.length ≤ c0) (h : vw.f l0 = some r) :
  Calls Tryz.prog 34 #[.slice A0 l0.length c0] w fun e w' => e = .returned (.string r) ∧ Below w.heap.size w w' := by
 unfold vw.f at h
 by_cases hb : isBytes l0
 case neg => rw [if_neg hb] at h;cases h
 rw [if_pos hb] at h
 obtain rfl := Option.some.inj h
 have HR0 := qq.mk hr0
 clear h hr0 hc0
 by_cases hbig : (l0.length : Int) > 20000
 ·rw [if_pos hbig]
  have q1 : decide (20000 < (l0.length : Int)) = true := decide_eq_true hbig
  go_enter Tryz.func34,Tryz.ntmps34
  go_wp2
  go_ret
  exact ⟨rfl,Below.refl _ _⟩
 rw [if_neg hbig]
 have q1 : decide (20000 < (l0.length : Int)) = false := decide_eq_false hbig
 have HL : qq (l0.length ≤ 20000) := ⟨by omega⟩
 have HB := qq.mk hb
 obtain ⟨res,hres⟩ : ∃ x,x = armB l0 := ⟨_,rfl⟩
 rw [← hres]
 have HRES := qq.mk hres
 clear hres hb hbig
 go_enter Tryz.func34,Tryz.ntmps34
 go_wp2
 have HBW0 := qq.mk (show Below w.heap.size w (w.alloc (Obj.cells #[Value.pointer none,Value.slice none 0 0] 62)) from qj (Below.refl _ _) _)
 have HI0 := qq.mk (Lib.fresh_isBuilder 62 5 w)
 generalize w.alloc (Obj.cells #[Value.pointer none,Value.slice none 0 0] 62) = w1 at HBW0 HI0 ⊢
 obtain ⟨B,eB⟩ : ∃ B,B = w.heap.size := ⟨_,rfl⟩
 rw [← eB] at HI0
 have hbb : w.heap.size = B := eB.symm
 simp only [hbb]
 clear eB
 have HBB := qq.mk hbb
 clear hbb
 go_loopw [4,5,13] (fun v4 v5 v13 W => ∃ (i : Nat) (V b : Int),v4 = .int .i64 V ∧ v5 = .int .i64 b ∧ v13 = .int .i64 i ∧ qq (i ≤ l0.length ∧ V = val l0 (5 * (8 * i / 5)) (8 * i - 5 * (8 * i / 5)) ∧ b = ((8 * i - 5 * (8 * i / 5) : Nat) : Int)) ∧ qq (Lib.IsBuilder 62 5 B B (Lib.byteCells (armU l0 (8 * i / 5))) W) ∧ qq (Below w.heap.size w W)) (fun _ _ v13 _ => l0.length - (intOf v13).toNat)
 case atStart => exact ⟨0,0,0,rfl,rfl,rfl,⟨by omega,rfl,rfl⟩,HI0,HBW0⟩
 case round =>
  clear HI0 HBW0
  obtain ⟨i,V,b,rfl,rfl,rfl,HV,HI,HW⟩ := hrel
  by_cases hlt : i < l0.length
  ·have hll := HL.out
   obtain ⟨ad,rfl,hcell⟩ := Kd.at_int (Kd.C_below HR0.out HW.out) i (by omega) (by omega)
   have hby := rd_byte HB.out hlt
   obtain ⟨x,ex⟩ : ∃ x,x = rd l0 (i : Int) := ⟨_,rfl⟩
   rw [Int.toNat_natCast] at hcell
   rw [← ex] at hcell hby
   have EX := qq.mk ex
   have HBY := qq.mk hby
   clear ex hby
   obtain ⟨hi0,eV,eb⟩ := HV.out
   obtain ⟨s,es⟩ : ∃ s,s = 5 * (8 * i / 5) := ⟨_,rfl⟩
   have hs1 : s ≤ 8 * i := by omega
   have hs2 : 8 * i ≤ s + 4 := by omega
   rw [← es] at eV eb
   obtain ⟨T,eT⟩ : ∃ T,T = val l0 s (8 * (i + 1) - s) := ⟨_,rfl⟩
   have hvr := val_range l0 s (8 * i - s)
   have hp : (2 : Int) ^ (8 * i - s) ≤ 16 := by
    obtain ⟨m,hm⟩ : ∃ m,m = 8 * i - s := ⟨_,rfl⟩
    rw [← hm]
    rcases m with _ | _ | _ | _ | _ | m
    ·decide
    ·decide
    ·decide
    ·decide
    ·decide
    ·omega
   have hV1 : wrap64 (V * 256) = V * 256 := by rw [eV];exact w64 (by omega) (by omega)
   have hx1 : wrap64 x = x := by have := HBY.out;exact w64 (by omega) (by omega)
   have hV2 : Go.bits .or .i64 (V * 256) x = T := by rw [eV,EX.out,eT];exact val_or l0 HB.out i s hlt hs1 hs2
   have hb8 : wrap64 (b + 8) = ((8 * (i + 1) - s : Nat) : Int) := by rw [eb,w64 (by omega) (by omega)];omega
   have ET := qq.mk eT
   have ES := qq.mk (And.intro es (And.intro hs1 hs2))
   have hlt1 : (i : Int) < (l0.length : Int) := by omega
   have hlt2 : decide ((i : Int) < (l0.length : Int)) = true := decide_eq_true hlt1
   have HLT := qq.mk hlt
   obtain ⟨c,ec⟩ : ∃ c : Nat,c = 8 * (i + 1) - s := ⟨_,rfl⟩
   rw [← ec] at hb8
   have EC := qq.mk ec
   clear hll hi0 eV eb es hs1 hs2 eT hvr hp hlt ec
   go_wp2
   simp only [hV1,hx1,hb8]
   go_loopw [5] (fun v5 W => ∃ (Q : Nat),v5 = .int .i64 ((8 * (i + 1) - 5 * Q : Nat) : Int) ∧ qq (s ≤ 5 * Q ∧ 5 * Q ≤ 8 * (i + 1)) ∧ qq (Lib.IsBuilder 62 5 B B (Lib.byteCells (armU l0 Q)) W) ∧ qq (Below w.heap.size w W)) (fun v5 _ => (intOf v5).toNat)
   case atStart => exact ⟨8 * i / 5,by rw [EC.out,ES.out.1],⟨by have := ES.out.1;omega,by omega⟩,HI,HW⟩
   case round =>
    clear HI HW
    obtain ⟨Q,rfl,HQ,HI,HW⟩ := hrel
    by_cases h5 : 5 * Q + 5 ≤ 8 * (i + 1)
    ·obtain ⟨g,eg⟩ : ∃ g : Nat,g = 8 * (i + 1) - 5 * Q := ⟨_,rfl⟩
     obtain ⟨g1,eg1⟩ : ∃ g1 : Nat,g1 = 8 * (i + 1) - (5 * Q + 5) := ⟨_,rfl⟩
     obtain ⟨N,eN⟩ : ∃ N,N = val l0 (5 * Q) 5 := ⟨_,rfl⟩
     have eS : shr .i64 T (g1 : Int) = T / 2 ^ min g1 64 := by unfold shr;rw [Int.toNat_natCast];rfl
     have hN : Go.bits .and .i64 (T / 2 ^ min g1 64) 31 = N := by
      rw [← eS,eg1,eN,ET.out]
      exact val_letter l0 s Q (8 * (i + 1)) HQ.out.1 h5 (by have := ES.out.2.2;omega)
     have hNr := val_range l0 (5 * Q) 5
     rw [← eN] at hNr
     have hN0 : 0 ≤ N := hNr.1
     have hN1 : N < 32 := hNr.2
     have hg5 : wrap64 ((g : Int) - 5) = (g1 : Int) := by have := HL.out;have := HLT.out;rw [w64 (by omega) (by omega)];omega
     have hge : decide (5 ≤ (g : Int)) = true := decide_eq_true (by omega)
     have hg0 : decide ((g1 : Int) < 0) = false := decide_eq_false (by omega)
     have hg0' : (0 : Int) ≤ (g1 : Int) := by omega
     rw [← eg]
     have EG := qq.mk (And.intro eg eg1)
     have EN := qq.mk eN
     have H5 := qq.mk h5
     clear eg eg1 eN hNr eS h5
     have HLEN : qq ((Lib.byteCells (armU l0 Q)).length + 1 ≤ 140737488355328) := ⟨by have := HL.out;have := HLT.out;have := HQ.out;rw [Lib.byteCells_length,armU_len];omega⟩
     have HBS : qq (B ≤ wr.heap.size) := ⟨by have := HW.out.size;rw [← HBB.out];exact this⟩
     go_wp2_with (go_at_call 64;refine (writeByte_calls B B (Lib.byteCells (armU l0 Q)) _ _ HI.out HLEN.out HBS.out).mono ?_)
     rintro e w2 ⟨rfl,hI2,hB2⟩
     have HI2 : qq (Lib.IsBuilder 62 5 B B (Lib.byteCells (armU l0 (Q + 1))) w2) := ⟨by
      have e : Lib.byteCells (armU l0 (Q + 1)) = Lib.byteCells (armU l0 Q) ++ [Value.int .u8 (bt lettersB N)] := by
       rw [bt_let hN0 hN1,EN.out]
       simp [armU,Lib.byteCells]
      rw [e,← bt_at lettersB N (show N.toNat < 32 by omega)]
      exact Or.inr hI2⟩
     have HW2 : qq (Below w.heap.size w w2) := ⟨HW.out.trans (by rw [HBB.out];exact hB2)⟩
     clear hI2 hB2
     go_wp2
     go_roundw
     case rel =>
      refine ⟨Q + 1,?_,⟨by have := HQ.out;omega,by have := H5.out;omega⟩,HI2,HW2⟩
      exact congrArg (fun n : Nat => Value.int .i64 (n : Int)) (by have := EG.out;omega)
     case measure => have := EG.out;have := H5.out;simp [intOf];omega
    ·have hlt5 : decide (5 ≤ ((8 * (i + 1) - 5 * Q : Nat) : Int)) = false := decide_eq_false (by omega)
     have EQ : qq (Q = 8 * (i + 1) / 5) := ⟨by have := HQ.out;omega⟩
     obtain ⟨g,eg⟩ : ∃ g : Nat,g = 8 * (i + 1) - 5 * Q := ⟨_,rfl⟩
     rw [← eg] at hlt5 ⊢
     have hm := val_mask l0 s Q (8 * (i + 1)) HQ.out.1 HQ.out.2 (by have := ES.out.2.2;omega)
     rw [← ET.out,← eg] at hm
     have EG := qq.mk eg
     have HM := qq.mk hm
     clear h5 eg hm
     go_wp2
     have hg4 : g ≤ 4 := by have := EG.out;have := of_decide_eq_false hlt5;omega
     have e3 : wrap64 ((i : Int) + 1) = ((i + 1 : Nat) : Int) := by have := HL.out;have := HLT.out;rw [w64 (by omega) (by omega)];rfl
     have ep : ∀ p : Int,1 ≤ p → p ≤ 16 → wrap64 p = p ∧ wrap64 (p - 1) = p - 1 := fun p h0 h1 => ⟨w64 (by omega) (by omega),w64 (by omega) (by omega)⟩
     have hp : (1 : Int) ≤ 2 ^ g ∧ (2 : Int) ^ g ≤ 16 := by
      rcases g with _ | _ | _ | _ | _ | g
      ·decide
      ·decide
      ·decide
      ·decide
      ·decide
      ·omega
     have em : min g 64 = g := Nat.min_eq_left (by omega)
     have e1 : wrap64 (2 ^ min g 64) = 2 ^ g := by rw [em];exact (ep _ hp.1 hp.2).1
     have e2 : wrap64 (2 ^ g - 1 : Int) = 2 ^ g - 1 := (ep _ hp.1 hp.2).2
     clear hp em ep
     rw [e1,e2,HM.out,e3]
     clear e1 e2
     refine ⟨⟨i + 1,_,_,rfl,rfl,rfl,⟨HLT.out,?_,?_⟩,?_,HW⟩,?_⟩
     ·rw [← EQ.out,EG.out]
     ·rw [← EQ.out,EG.out]
     ·rw [← EQ.out];exact HI
     ·show l0.length - (((i + 1 : Nat) : Int)).toNat < l0.length - ((i : Int)).toNat
      rw [Int.toNat_natCast,Int.toNat_natCast]
      exact Nat.sub_lt_sub_left HLT.out (Nat.lt_succ_self i)
  ·obtain ⟨hi0,eV,eb⟩ := HV.out
   obtain rfl : i = l0.length := by omega
   have hlt2 : decide ((l0.length : Int) < (l0.length : Int)) = false := decide_eq_false (by omega)
   obtain ⟨Q,eQ⟩ : ∃ Q,Q = 8 * l0.length / 5 := ⟨_,rfl⟩
   obtain ⟨g,eg⟩ : ∃ g : Nat,g = 8 * l0.length - 5 * Q := ⟨_,rfl⟩
   rw [← eQ,← eg] at eV eb
   rw [← eQ] at HI
   subst eb
   have hll := HL.out
   have HBS : qq (B ≤ wr.heap.size) := ⟨by have := HW.out.size;rw [← HBB.out];exact this⟩
   have HLEN : qq ((Lib.byteCells (armU l0 Q)).length + 1 ≤ 140737488355328) := ⟨by rw [Lib.byteCells_length,armU_len];omega⟩
   by_cases hg0 : 0 < g
   ·have hgd : decide (0 < (g : Int)) = true := decide_eq_true (by omega)
    obtain ⟨N,eN⟩ : ∃ N,N = val l0 (5 * Q) 5 := ⟨_,rfl⟩
    have hlast := val_last l0 Q g (by omega) (by omega)
    rw [← eV,← eN] at hlast
    have hNr := val_range l0 (5 * Q) 5
    rw [← eN] at hNr
    have hN0 : 0 ≤ N := hNr.1
    have hN1 : N < 32 := hNr.2
    have HLAST := qq.mk hlast
    clear hlast
    have HEND : qq (armU l0 (Q + 1) = armU l0 (armN l0)) := ⟨by rw [show armN l0 = Q + 1 by unfold armN;omega]⟩
    have h5g : wrap64 (5 - (g : Int)) = ((5 - g : Nat) : Int) := by rw [w64 (by omega) (by omega)];omega
    have HNT : qq (N.toNat < 32) := ⟨by omega⟩
    have hM2 : Go.bits .and .i64 N 31 = N := and31 N hN0 hN1
    have hM1 : wrap64 (V * 2 ^ (5 - g)) = N := by rw [HLAST.out];exact w64 (Int.le_trans (by decide) hN0) (Int.le_of_lt (Int.lt_of_lt_of_le hN1 (by decide)))
    have EN := qq.mk eN
    clear eN hNr hi0 eV eQ eg hll
    go_wp2_with (go_at_call 64;refine (writeByte_calls B B (Lib.byteCells (armU l0 Q)) _ _ HI.out HLEN.out HBS.out).mono ?_)
    rintro e w2 ⟨rfl,hI2,hB2⟩
    have HI2 : qq (Lib.IsBuilder 62 5 B B (Lib.byteCells (armU l0 (armN l0))) w2) := ⟨by
     have e : Lib.byteCells (armU l0 (Q + 1)) = Lib.byteCells (armU l0 Q) ++ [Value.int .u8 (bt lettersB N)] := by
      rw [bt_let hN0 hN1,EN.out]
      simp [armU,Lib.byteCells]
     rw [← HEND.out,e,← bt_at lettersB N HNT.out]
     exact Or.inr hI2⟩
    have HW2 : qq (Below w.heap.size w w2) := ⟨HW.out.trans (by rw [HBB.out];exact hB2)⟩
    have HBS2 : qq (B ≤ w2.heap.size) := ⟨by have := HW2.out.size;rw [← HBB.out];exact this⟩
    clear hI2 hB2
    go_wp2_with (go_at_call 35;refine (string_calls B B (armU l0 (armN l0)) _ HI2.out HBS2.out).mono ?_)
    rintro e w3 ⟨rfl,hB3⟩
    go_wp2
    go_ret
    exact ⟨by rw [HRES.out];rfl,HW2.out.trans (by rw [HBB.out];exact hB3)⟩
   ·have hgd : decide (0 < (g : Int)) = false := decide_eq_false (by omega)
    have HEND : qq (armU l0 Q = armU l0 (armN l0)) := ⟨by rw [show armN l0 = Q by unfold armN;omega]⟩
    have HI2 : qq (Lib.IsBuilder 62 5 B B (Lib.byteCells (armU l0 (armN l0))) wr) := ⟨by rw [← HEND.out];exact HI.out⟩
    clear hi0 eV eQ eg hll
    go_wp2_with (go_at_call 35;refine (string_calls B B (armU l0 (armN l0)) _ HI2.out HBS.out).mono ?_)
    rintro e w3 ⟨rfl,hB3⟩
    go_wp2
    go_ret
    exact ⟨by rw [HRES.out];rfl,HW.out.trans (by rw [HBB.out];exact hB3)⟩
end Go.Proofs.YtnbbbjfjkhglhaaGreatDoor.Pr
namespace Go.Proofs.YtnbbbjfjkhglhaaGreatDoor.Pr
open Go.RowKit Go.Proofs.YtnbbbjfjkhglhaaGreatDoorW.PrintWords Go.Proofs.YtnbbbjfjkhglhaaGreatDoorW.PrintLast Go.Proofs.YtnbbbjfjkhglhaaGreatDoorW.PrintMore
set_option linter.unusedVariables false
def bytesOfS.f (s : ByteArray) : Option (List Int) := if s.size ≤ 9223372036854775807 then some (bytesOf s) else none
def BytesCalls (P : Program) (src dst : TypeId) (s : ByteArray) (w : World) (R : Ending → World → Prop) : Prop :=
 ∃ v w',(convert src dst (.string s)).run P w = .ok v w' ∧ R (.returned v) w'
theorem BytesCalls.mono {P : Program} {src dst : TypeId} {s : ByteArray} {w : World} {R R' : Ending → World → Prop} (h : BytesCalls P src dst s w R) (hr : ∀ e w',R e w' → R' e w') : BytesCalls P src dst s w R' :=
 let ⟨v,w',h1,h2⟩ := h;⟨v,w',h1,hr _ _ h2⟩
theorem bytesOfS.calls (a0 : ByteArray) (r : List Int) (w : World) (h : bytesOfS.f a0 = some r) :
  BytesCalls Tryz.prog 9 34 a0 w fun e w' => ∃ v0_ : Value,e = .returned (v0_) ∧ Kd.V (Kd.int .u8) 5 w' w.heap.size (fun k_ => (w.heap.size ≤ k_)) v0_ r ∧ Below w.heap.size w w' := by
 unfold bytesOfS.f at h
 by_cases hs : a0.size ≤ 9223372036854775807
 case neg => rw [if_neg hs] at h;cases h
 rw [if_pos hs] at h
 obtain rfl := Option.some.inj h
 refine ⟨_,_,print_bytes 9 34 5 Tryz.underlying9 Tryz.underlying34 Tryz.underlying5 a0 w,_,rfl,?_,vk (Below.refl _ _) (Nat.le_refl _) 5 a0⟩
 have hcell : ∀ W' : World,W'.heap[w.heap.size]? = (Lib.bytesWorld w 5 a0).heap[w.heap.size]? → (Kd.int .u8).C W' (some ⟨w.heap.size,0,none⟩) (bytesOf a0).length (bytesOf a0) := by
  intro W' hW
  have h0 := vv w 5 a0 hs
  have h1 : ReadsInt W' .u8 (some ⟨w.heap.size,0,none⟩) (bytesOf a0).length (bytesOf a0) := by
   refine ⟨rfl,by rw [bytesOf_length];exact hs,fun hp => ?_⟩
   obtain ⟨ad,e1,hc⟩ := h0.2.2 (by rw [bytesOf_length] at hp;exact hp)
   refine ⟨ad,e1,fun j hj => ?_⟩
   rw [← hc j (by rw [bytesOf_length] at hj;exact hj)]
   injection e1 with e1
   subst e1
   rw [add_plain]
   exact World.cell?_of_block (by exact hW)
  exact Kd.C_of_reads (d := (0 : Int)) (h1 := fun _ => rfl) h1
 refine ⟨some ⟨w.heap.size,0,none⟩,grownCap w a0.size 0 5,by rw [bytesOf_length],by rw [bytesOf_length];exact grownCap_ge _ _ _ _,fun W' hW => hcell W' (hW _ (Nat.le_refl _) ?_)⟩
 rw [Lib.bytesWorld_size];omega
section
variable {P : Program} {ops : Array Oper} {Q : Exit → Act → World → Prop}
theorem bytesGoes_ {oi : Oper} {N : Option Tmp} {a : Act} {w : World} {K : Act → World → Prop} {src dst : TypeId} {x : Operand} {s : ByteArray}
  (hw : Region.wanted oi (yielded ops a.tmps) = true) (hN : oi.dst = N) (hop : oi.op = .convert src dst x) (hx : a.eval x = .string s)
  (h : BytesCalls P src dst s w fun e w' => ∃ v,e = .returned v ∧ K (a.put N v) w') : if Region.wanted oi (yielded ops a.tmps) = true then Oper.wp P oi a w K Q else K (a.put N undef) w := by
 obtain ⟨v,w',hr,v',he,hk⟩ := h
 injection he with he
 subst he
 subst hN
 refine event_step hw ?_ hk
 unfold execOp
 simp [hop,hx,hr]
def BoxCalls (t : TypeId) (cs : Array Value) (w : World) (R : Ending → World → Prop) : Prop := R (.returned (.pointer (some ⟨w.heap.size,0,none⟩))) (w.alloc (.cells cs t (0,0)))
theorem BoxCalls.mono {t : TypeId} {cs : Array Value} {w : World} {R R' : Ending → World → Prop} (h : BoxCalls t cs w R) (hr : ∀ e w',R e w' → R' e w') : BoxCalls t cs w R' := hr _ _ h
end
end Go.Proofs.YtnbbbjfjkhglhaaGreatDoor.Pr
namespace Go.Proofs.YtnbbbjfjkhglhaaGreatDoor.Pr
open Go.RowKit Go.Proofs.YtnbbbjfjkhglhaaGreatDoorW.PrintWords Go.Proofs.YtnbbbjfjkhglhaaGreatDoorW.PrintLast Go.Proofs.YtnbbbjfjkhglhaaGreatDoorW.PrintMore
def anyO {α : Type} (p : α → Option Bool) : List α → Option Bool
 | [] => some false
 | x :: xs => (p x).bind fun b => if b = true then some true else anyO p xs
theorem anyO_mono {α : Type} {p q : α → Option Bool} (h : ∀ x,LeO (p x) (q x)) : ∀ l : List α,LeO (anyO p l) (anyO q l)
 | [] => LeO.refl _
 | x :: xs => LeO.bind (h x) (fun _ => LeO.ite (LeO.refl _) (anyO_mono h xs))
theorem anyO_drop {α : Type} {p : α → Option Bool} {l : List α} {k : Nat} {r : Bool} (hk : k < l.length) (h : anyO p (l.drop k) = some r) : ∃ b,p l[k] = some b ∧ (b = true → r = true) ∧ (b = false → anyO p (l.drop (k + 1)) = some r) := by
 rw [List.drop_eq_getElem_cons hk] at h
 obtain ⟨b,hb,h2⟩ := Option.bind_eq_some_iff.1 h
 refine ⟨b,hb,fun e => ?_,fun e => ?_⟩
 ·subst e;simpa using h2.symm
 ·subst e;simpa using h2
end Go.Proofs.YtnbbbjfjkhglhaaGreatDoor.Pr
namespace Go.Proofs.YtnbbbjfjkhglhaaGreatDoor.Pr
open Go.RowKit Go.Proofs.YtnbbbjfjkhglhaaGreatDoorW.PrintWords Go.Proofs.YtnbbbjfjkhglhaaGreatDoorW.PrintLast Go.Proofs.YtnbbbjfjkhglhaaGreatDoorW.PrintMore
set_option linter.unusedVariables false
set_option linter.unusedSimpArgs false
set_option maxHeartbeats 1000000 in
set_option maxRecDepth 100000 in
theorem indexT30_calls (fn : Nat) (p : S30 → Option Bool) (eg : Enters Tryz.prog fn) (hp : ∀ (x : S30) (b : Bool) (W : World),p x = some b → Calls Tryz.prog fn #[.agg #[.string (x.f0),.int .i64 (x.f1),.string (x.f2),.int .i64 (x.f3.f0),.int .i64 (x.f3.f1),.string (x.f3.f2),.string (x.f3.f3)]] W fun e w' => e = .returned (.bool b) ∧ Below W.heap.size W w')
  (A0 : Option Addr) (c0 : Nat) (l0 : List S30) (r : Bool) (w : World) (hr0 : Kd.C k30 w A0 l0.length l0) (h : anyO p l0 = some r) :
  Calls Tryz.prog 82 #[.slice A0 l0.length c0,.func (.func fn) #[] #[]] w fun e w' => ∃ i : Int,e = .returned (.int .i64 i) ∧ decide (0 ≤ i) = r ∧ Below w.heap.size w w' := by
 have hmax := Kd.C_max hr0
 have HR0 := qq.mk hr0
 have HM := qq.mk hmax
 have HP := qq.mk hp
 have HH := qq.mk h
 clear hr0 hmax hp h
 have e1 : ∀ (args : Array Value) (w : World),(callFunc fn args).run Tryz.prog w = .ok (.enter fn args) w := eg
 go_enter Tryz.func82,Tryz.ntmps82
 go_wp2
 go_loopw [5,8] (fun v5 i W => ∃ k : Nat,k ≤ l0.length ∧ i = .int .i64 k ∧ qq (anyO p (l0.drop k) = some r ∧ Below w.heap.size w W)) (fun _ i _ => l0.length - (intOf i).toNat)
 case atStart => exact ⟨0,by omega,rfl,⟨HH.out,by repeat (first | exact Below.refl _ _ | apply below_drew | apply qz)⟩⟩
 case round =>
  obtain ⟨k,hk,rfl,HW⟩ := hrel
  have hmax := HM.out
  by_cases hlt : k < l0.length
  ·obtain ⟨ad,ead,hx0,hx1,hx2,hx3,hx4,hx5,hx6⟩ := at_T30 HR0.out (k : Int) (by omega) (by omega)
   cases ead
   replace hx0 := (HW.out.2.cell (World.block_lt_of_cell? w _ hx0)).trans hx0
   replace hx1 := (HW.out.2.cell (World.block_lt_of_cell? w _ hx1)).trans hx1
   replace hx2 := (HW.out.2.cell (World.block_lt_of_cell? w _ hx2)).trans hx2
   replace hx3 := (HW.out.2.cell (World.block_lt_of_cell? w _ hx3)).trans hx3
   replace hx4 := (HW.out.2.cell (World.block_lt_of_cell? w _ hx4)).trans hx4
   replace hx5 := (HW.out.2.cell (World.block_lt_of_cell? w _ hx5)).trans hx5
   replace hx6 := (HW.out.2.cell (World.block_lt_of_cell? w _ hx6)).trans hx6
   obtain ⟨b,hb,h1,h2⟩ := anyO_drop hlt HW.out.1
   have ex : vz l0 (k : Int) = l0[k] := by simp [vz,List.getD_eq_getElem?_getD,List.getElem?_eq_getElem hlt]
   have HC := qq.mk (fun W => HP.out l0[k] b W hb)
   clear hb
   rw [← ex] at HC
   clear ex
   generalize vz l0 (k : Int) = x at HC hx0 hx1 hx2 hx3 hx4 hx5 hx6
   rw [Int.toNat_natCast] at hx0 hx1 hx2 hx3 hx4 hx5 hx6
   cases b with
   | false =>
    have HB := qq.mk (h2 rfl)
    clear h1 h2
    go_wp2_with (go_at_fn fn;refine (HC.out _).mono ?_;rintro e w' ⟨rfl,hb⟩;have HD := qq.mk (zv (by repeat (first | exact HW.out.2 | apply below_drew | apply qz)) hb);clear hb)
    go_roundw
    case rel => exact ⟨k + 1,by omega,by go_num,⟨HB.out,by repeat (first | exact HD.out | apply below_drew | apply qz)⟩⟩
    case measure => simp [intOf];omega
   | true =>
    have HB := qq.mk (h1 rfl)
    clear h1 h2
    go_wp2_with (go_at_fn fn;refine (HC.out _).mono ?_;rintro e w' ⟨rfl,hb⟩;have HD := qq.mk (zv (by repeat (first | exact HW.out.2 | apply below_drew | apply qz)) hb);clear hb)
    go_ret
    exact ⟨k,rfl,by rw [HB.out];exact decide_eq_true (by omega),by repeat (first | exact HD.out | apply below_drew | apply qz)⟩
  ·obtain rfl : k = l0.length := by omega
   rw [List.drop_length] at HW
   go_wp2
   go_ret
   exact ⟨-1,rfl,by have := Option.some.inj HW.out.1;rw [← this];rfl,by repeat (first | exact HW.out.2 | apply below_drew | apply qz)⟩
theorem containsT30_calls (fn : Nat) (p : S30 → Option Bool) (eg : Enters Tryz.prog fn) (hp : ∀ (x : S30) (b : Bool) (W : World),p x = some b → Calls Tryz.prog fn #[.agg #[.string (x.f0),.int .i64 (x.f1),.string (x.f2),.int .i64 (x.f3.f0),.int .i64 (x.f3.f1),.string (x.f3.f2),.string (x.f3.f3)]] W fun e w' => e = .returned (.bool b) ∧ Below W.heap.size W w')
  (A0 : Option Addr) (c0 : Nat) (l0 : List S30) (r : Bool) (w : World) (hr0 : Kd.C k30 w A0 l0.length l0) (h : anyO p l0 = some r) :
  Calls Tryz.prog 61 #[.slice A0 l0.length c0,.func (.func fn) #[] #[]] w fun e w' => e = .returned (.bool r) ∧ Below w.heap.size w w' := by
 have C1 := qq.mk (fun W (hW : Kd.C k30 W A0 l0.length l0) => indexT30_calls fn p eg hp A0 c0 l0 r W hW h)
 have HR0 := qq.mk hr0
 clear hr0 hp h eg
 go_enter Tryz.func61,Tryz.ntmps61
 go_wp2_with (go_at_call 82;refine (C1.out _ (by repeat (first | exact HR0.out | apply Kd.C_drewN | apply Kd.C_drew))).mono ?_;rintro e w' ⟨i,rfl,hi,hb⟩;have HD := qq.mk (zv (by repeat (first | exact Below.refl _ _ | apply below_drew | apply qz)) hb);clear hb)
 go_ret
 exact ⟨by simp only [← hi];rfl,by repeat (first | exact HD.out | apply below_drew | apply qz)⟩
end Go.Proofs.YtnbbbjfjkhglhaaGreatDoor.Pr
namespace Go.Proofs.YtnbbbjfjkhglhaaGreatDoor.Pr
open Go.RowKit Go.Proofs.YtnbbbjfjkhglhaaGreatDoorW.PrintWords Go.Proofs.YtnbbbjfjkhglhaaGreatDoorW.PrintLast Go.Proofs.YtnbbbjfjkhglhaaGreatDoorW.PrintMore
attribute [local go_sem] max2_int min2_int max_two min_two max_three min_three max_four min_four
set_option linter.unusedVariables false
set_option linter.unusedSimpArgs false
def wx.f (k : Nat) (a0_0 : ByteArray) (a0_1 : Int) (a0_2 : ByteArray) (a0_3 : Int) (a0_4 : Int) (a0_5 : ByteArray) (a0_6 : ByteArray) : Option (Bool) := (xz.f k a0_0 a0_1 a0_2 a0_3 a0_4 a0_5 a0_6).bind fun t102 => (some (!t102))
theorem wx.mono : ∀ a0 a1 a2 a3 a4 a5 a6 k,LeO (wx.f k a0 a1 a2 a3 a4 a5 a6) (wx.f (k + 1) a0 a1 a2 a3 a4 a5 a6) := by
 intro a0 a1 a2 a3 a4 a5 a6 k
 unfold wx.f
 repeat' first
   | (with_reducible exact xz.mono _ _ _ _ _ _ _ _)
   | (with_reducible exact LeO.refl _)
   | (with_reducible exact LeO.none _)
   | (with_reducible refine LeO.ite ?_ ?_)
   | (with_reducible refine LeO.bind ?_ (fun _ => ?_))
   | exact xz.mono _ _ _ _ _ _ _ _
   | exact LeO.none _
   | refine LeO.ite ?_ ?_
   | refine LeO.bind ?_ (fun _ => ?_)
set_option maxHeartbeats 8000000 in
set_option maxRecDepth 100000 in
theorem wx.calls (k : Nat) (a0_0 : ByteArray) (a0_1 : Int) (a0_2 : ByteArray) (a0_3 : Int) (a0_4 : Int) (a0_5 : ByteArray) (a0_6 : ByteArray) (r : Bool) (w : World) (h : wx.f k a0_0 a0_1 a0_2 a0_3 a0_4 a0_5 a0_6 = some r) :
  Calls Tryz.prog 62 #[.agg #[.string a0_0,.int .i64 a0_1,.string a0_2,.int .i64 a0_3,.int .i64 a0_4,.string a0_5,.string a0_6]] w fun e w' => e = .returned (.bool r) ∧ Below w.heap.size w w' := by
 have hu30 := Tryz.underlying30
 have HB := qq.mk (Below.refl w.heap.size w)
 have H : ((xz.f k a0_0 a0_1 a0_2 a0_3 a0_4 a0_5 a0_6).bind fun t102 => (some (!t102))) = some r := h
 clear h
 replace H := Option.bind_eq_some_iff.mp H
 obtain ⟨t102,A20,H⟩ := H
 replace H : (some (!t102)) = some r := H
 have A2 := qq.mk A20
 clear A20
 obtain rfl := Option.some.inj H
 go_enter Tryz.func62,Tryz.ntmps62
 go_wp2_with (first | ((with_reducible refine gate_dst (N := 1) rfl ?_);refine box_event ?hg (N := 1) ?hd (cs := #[.string a0_0,.int .i64 a0_1,.string a0_2,.int .i64 a0_3,.int .i64 a0_4,.string a0_5,.string a0_6]) (t := 30) ?hr ?_;(case hd => rfl);(case hg => rfl);(case hr => first | (go_simp;done) | (go_simp;rfl));intro gb101 hg w3 hbox hb;have n0_ := qq.mk (zv (by repeat (first | (with_reducible first | exact HB.out | apply qj | apply qz | apply qk) | exact HB.out)) hb);have n1_ := qq.mk (hbox);have n2_ := qq.mk ((by rw [hg];exact (zw (by repeat (first | (with_reducible first | exact HB.out | apply qj | apply qz | apply qk) | exact HB.out))) : w.heap.size ≤ gb101));have n3_ := qq.mk ((by rw [hg];exact (zw (by repeat (first | (with_reducible first | exact HB.out | apply qj | apply qz | apply qk) | exact HB.out))) : w.heap.size ≤ gb101));clear HB;have HB := n0_;have BK101 := n1_;have GW101 := n2_;have GE101 := n3_;clear n0_ n1_ n2_ n3_;clear hb hbox hg;have hcz4_0 : w3.cell? ⟨gb101,0,none⟩ = some (.string a0_0) := (qw BK101.out 0).trans rfl;have hcz4_1 : w3.cell? ⟨gb101,1,none⟩ = some (.int .i64 a0_1) := (qw BK101.out 1).trans rfl;have hcz4_2 : w3.cell? ⟨gb101,2,none⟩ = some (.string a0_2) := (qw BK101.out 2).trans rfl;have hcz4_3 : w3.cell? ⟨gb101,3,none⟩ = some (.int .i64 a0_3) := (qw BK101.out 3).trans rfl;have hcz4_4 : w3.cell? ⟨gb101,4,none⟩ = some (.int .i64 a0_4) := (qw BK101.out 4).trans rfl;have hcz4_5 : w3.cell? ⟨gb101,5,none⟩ = some (.string a0_5) := (qw BK101.out 5).trans rfl;have hcz4_6 : w3.cell? ⟨gb101,6,none⟩ = some (.string a0_6) := (qw BK101.out 6).trans rfl;have hfz4_0 := qv BK101.out 0;have hfz4_1 := qv BK101.out 1;have hfz4_2 := qv BK101.out 2;have hfz4_3 := qv BK101.out 3;have hfz4_4 := qv BK101.out 4;have hfz4_5 := qv BK101.out 5;have hfz4_6 := qv BK101.out 6) | ((with_reducible refine jv (f := 24) rfl ?_);refine goesL_ (some 4) rfl rfl Tryz.func24 (by kernel_rfl) rfl #[.agg #[.string a0_0,.int .i64 a0_1,.string a0_2,.int .i64 a0_3,.int .i64 a0_4,.string a0_5,.string a0_6]] rfl (by (try simp only [List.map_toArray,List.map_cons,List.map_nil]);first | done | rfl | (simp only [List.length_drop,List.length_take];rfl)) ?_;(with_reducible refine (xz.calls k a0_0 a0_1 a0_2 a0_3 a0_4 a0_5 a0_6 t102 _ A2.out).mono ?_);rintro e w5 ⟨rfl,hb⟩;refine ⟨_,rfl,?_⟩;have n0_ := qq.mk (kw (g := gb101) (o := .cells #[.string a0_0,.int .i64 a0_1,.string a0_2,.int .i64 a0_3,.int .i64 a0_4,.string a0_5,.string a0_6] 30 (0,0)) (by (with_reducible repeat (first | refine zz ?_ _ | refine zj ?_ | refine zq ?_ _));exact BK101.out) hb);have n1_ := qq.mk (zv (by repeat (first | (with_reducible first | exact HB.out | apply qj | apply qz | apply qk | refine qx ?_ GE101.out) | exact HB.out)) hb);clear BK101;clear HB;have BK101 := n0_;have HB := n1_;clear n0_ n1_;(try clear hb);(try clear hb2);(try clear hk);(try clear hi)))
 go_ret
 exact ⟨by first | rfl | (simp [*,jk,jj] <;> rfl),by repeat (first | (with_reducible first | exact HB.out | apply qj | apply qz | apply qk | refine qx ?_ GE101.out) | exact HB.out)⟩
end Go.Proofs.YtnbbbjfjkhglhaaGreatDoor.Pr
namespace Go.Proofs.YtnbbbjfjkhglhaaGreatDoor.Pr
open Go.RowKit Go.Proofs.YtnbbbjfjkhglhaaGreatDoorW.PrintWords Go.Proofs.YtnbbbjfjkhglhaaGreatDoorW.PrintLast Go.Proofs.YtnbbbjfjkhglhaaGreatDoorW.PrintMore
set_option linter.unusedVariables false
def has_impl_ygoodCap_1.f (k : Nat) (l : List S30) : Option Bool := anyO (fun x : S30 => wx.f k x.f0 x.f1 x.f2 x.f3.f0 x.f3.f1 x.f3.f2 x.f3.f3) l
theorem has_impl_ygoodCap_1.mono (l : List S30) (k : Nat) : LeO (has_impl_ygoodCap_1.f k l) (has_impl_ygoodCap_1.f (k + 1) l) := anyO_mono (p := fun x : S30 => wx.f k x.f0 x.f1 x.f2 x.f3.f0 x.f3.f1 x.f3.f2 x.f3.f3) (q := fun x : S30 => wx.f (k + 1) x.f0 x.f1 x.f2 x.f3.f0 x.f3.f1 x.f3.f2 x.f3.f3) (fun x => wx.mono x.f0 x.f1 x.f2 x.f3.f0 x.f3.f1 x.f3.f2 x.f3.f3 k) l
theorem has_impl_ygoodCap_1.calls (k : Nat) (A0 : Option Addr) (c0 : Nat) (l0 : List S30) (r : Bool) (w : World) (hr0 : Kd.C k30 w A0 l0.length l0) (hc0 : l0.length ≤ c0) (h : has_impl_ygoodCap_1.f k l0 = some r) :
  Calls Tryz.prog 61 #[.slice A0 l0.length c0,.func (.func 62) #[] #[]] w fun e w' => e = .returned (.bool r) ∧ Below w.heap.size w w' :=
 containsT30_calls 62 (fun x : S30 => wx.f k x.f0 x.f1 x.f2 x.f3.f0 x.f3.f1 x.f3.f2 x.f3.f3) (enters_of Tryz.func62 (by kernel_rfl) rfl) (fun x b W hb => wx.calls k x.f0 x.f1 x.f2 x.f3.f0 x.f3.f1 x.f3.f2 x.f3.f3 b W hb) A0 c0 l0 r w hr0 h
end Go.Proofs.YtnbbbjfjkhglhaaGreatDoor.Pr
namespace Go.Proofs.YtnbbbjfjkhglhaaGreatDoor.Pr
open Go.RowKit Go.Proofs.YtnbbbjfjkhglhaaGreatDoorW.PrintWords Go.Proofs.YtnbbbjfjkhglhaaGreatDoorW.PrintLast Go.Proofs.YtnbbbjfjkhglhaaGreatDoorW.PrintMore
attribute [local go_sem] max2_int min2_int max_two min_two max_three min_three max_four min_four
set_option linter.unusedVariables false
set_option linter.unusedSimpArgs false
mutual
def xq.j0 : Nat → ByteArray → Bool → Option (Bool)
 | 0,_,_ => none
 | k + 1,x0,x11 => if x11 = true then (some false) else (xq.l0 k x0 (x0.size : Int) 0)
def xq.l0 : Nat → ByteArray → Int → Int → Option (Bool)
 | 0,_,_,_ => none
 | k + 1,x0,x13,x14 => if x14 < x13 then (if 0 ≤ x14 then (if x14 < (x0.size : Int) then ((xx.f (bt x0 x14)).bind fun t101 => (if t101 = true then (xq.l0 k x0 x13 (wrap64 (x14 + 1))) else (if (bt x0 x14) = 45 then (xq.l0 k x0 x13 (wrap64 (x14 + 1))) else (if (bt x0 x14) = 46 then (xq.l0 k x0 x13 (wrap64 (x14 + 1))) else (some false))))) else (none)) else (none)) else (some true)
end
def xq.f (k : Nat) (a0 : ByteArray) : Option (Bool) := if (a0.size : Int) < 1 then (xq.j0 k a0 true) else (xq.j0 k a0 (decide ((a0.size : Int) > 40)))
set_option maxHeartbeats 8000000 in
set_option maxRecDepth 100000 in
theorem xq.calls (k : Nat) (a0 : ByteArray) (r : Bool) (w : World) (h : xq.f k a0 = some r) :
  Calls Tryz.prog 60 #[.string a0] w fun e w' => e = .returned (.bool r) ∧ Drawn0 w w' := by
 have H : (if (a0.size : Int) < 1 then (xq.j0 k a0 true) else (xq.j0 k a0 (decide ((a0.size : Int) > 40)))) = some r := h
 clear h
 have HC2 := qq.mk H
 clear H
 go_enter Tryz.func60,Tryz.ntmps60
 go_upto_region 1 with (fail)
 go_cut [11] (fun v11 wc => ∃ (kq : Nat) (x11_1 : Bool),v11 = .bool x11_1 ∧ qq (xq.j0 kq a0 x11_1 = some r) ∧ qq (kq ≤ k) ∧ Drawn0 w wc)
 case first =>
  have H := HC2.out
  clear HC2
  by_cases c3 : (a0.size : Int) < 1
  ·rw [if_pos c3] at H
   have c3b0 : decide ((a0.size : Int) < 1) = true := decide_eq_true c3
   have c3b1 : decide (a0.size < 1) = true := decide_eq_true (by omega)
   clear c3
   (first | rw [c3b0] | (simp only [i64_w,i32_w];rw [c3b0]) | skip)
   have H' := qq.mk H
   clear H
   go_wp2
   go_meet
   case rel => exact ⟨_,(true),(by first | rfl | (simp;done) | (simp [*];done)),H',⟨by first | omega | exact Nat.le_refl _⟩,by repeat (first | exact Drawn0.refl _ | apply Drawn0.step)⟩
  ·rw [if_neg c3] at H
   have c3b0 : decide ((a0.size : Int) < 1) = false := decide_eq_false c3
   have c3b1 : decide (a0.size < 1) = false := decide_eq_false (by omega)
   clear c3
   (first | rw [c3b0] | (simp only [i64_w,i32_w];rw [c3b0]) | skip)
   have H' := qq.mk H
   clear H
   go_wp2
   go_meet
   case rel => exact ⟨_,(decide ((a0.size : Int) > 40)),(by first | rfl | (simp;done) | (simp [*];done)),H',⟨by first | omega | exact Nat.le_refl _⟩,by repeat (first | exact Drawn0.refl _ | apply Drawn0.step)⟩
 case rest =>
  clear HC2
  try clear p2
  try clear c3
  try clear c3b0
  try clear c3b1
  obtain ⟨kq,x11_1,rfl,HA,HJ1,⟨mc1,rfl⟩⟩ := hcut
  cases kq with
  | zero => exact absurd HA.out (by simp [xq.j0])
  | succ kj1 =>
   have H := HA.out
   clear HA
   simp only [xq.j0] at H
   by_cases c4 : x11_1 = true
   ·subst c4
    have H1 : (some false) = some r := by rw [if_pos rfl] at H;exact H
    clear H
    have H := H1
    clear H1
    obtain rfl := Option.some.inj H
    go_wp2
    go_ret
    exact ⟨by first | rfl | (simp;done) | (simp [*];done),by repeat (first | exact Drawn0.refl _ | apply Drawn0.step)⟩
   ·replace c4 := Bool.eq_false_iff.mpr c4
    subst c4
    have H1 : (xq.l0 kj1 a0 (a0.size : Int) 0) = some r := by rw [if_neg (show ¬ (false = true) by decide)] at H;exact H
    clear H
    have H := H1
    clear H1
    have H' := qq.mk H
    clear H
    go_wp2
    go_loopg [14] kj1 (fun kq v14 w' => ∃ (x14_2 : Int),v14 = .int .i64 x14_2 ∧ qq (xq.l0 kq a0 (a0.size : Int) x14_2 = some r) ∧ qq (kq ≤ kj1) ∧ Drawn0 w w')
    case atStart => exact ⟨(0),(by first | rfl | (simp;done) | (simp [*];done)),H',⟨Nat.le_refl _⟩,by repeat (first | exact Drawn0.refl _ | apply Drawn0.step)⟩
    case round =>
     clear H'
     try clear c1
     try clear p2
     try clear c3
     try clear c3b0
     try clear c3b1
     try clear c4
     try clear p2
     obtain ⟨x14_2,rfl,HA,HK2,⟨m2,rfl⟩⟩ := hrel
     cases gk with
     | zero => exact absurd HA.out (by simp [xq.l0])
     | succ k2 =>
      have H := HA.out
      clear HA
      simp only [xq.l0] at H
      by_cases c5 : x14_2 < (a0.size : Int)
      ·rw [if_pos c5] at H
       have c5b0 : decide (x14_2 < (a0.size : Int)) = true := decide_eq_true c5
       clear c5
       by_cases c6 : 0 ≤ x14_2
       ·rw [if_pos c6] at H
        have c6b0 : decide (0 ≤ x14_2) = true := decide_eq_true c6
        clear c6
        by_cases c7 : x14_2 < (a0.size : Int)
        ·rw [if_pos c7] at H
         have c7b0 : decide (x14_2 < (a0.size : Int)) = true := decide_eq_true c7
         clear c7
         replace H := Option.bind_eq_some_iff.mp H
         obtain ⟨t101,A90,H⟩ := H
         replace H : (if t101 = true then (xq.l0 k2 a0 (a0.size : Int) (wrap64 (x14_2 + 1))) else (if (bt a0 x14_2) = 45 then (xq.l0 k2 a0 (a0.size : Int) (wrap64 (x14_2 + 1))) else (if (bt a0 x14_2) = 46 then (xq.l0 k2 a0 (a0.size : Int) (wrap64 (x14_2 + 1))) else (some false)))) = some r := H
         have A9 := qq.mk A90
         clear A90
         by_cases c10 : t101 = true
         ·subst c10
          have H1 : (xq.l0 k2 a0 (a0.size : Int) (wrap64 (x14_2 + 1))) = some r := by rw [if_pos rfl] at H;exact H
          clear H
          have H := H1
          clear H1
          have H' := qq.mk H
          clear H
          have p8 : 0 ≤ (x14_2 : Int) := of_decide_eq_true (by assumption)
          have q8 : x14_2 < (a0.size : Int) := of_decide_eq_true (by assumption)
          have hx8 := bt_at a0 x14_2
          replace p8 := eq_true p8
          replace q8 := eq_true q8
          go_wp2_with (first | ((with_reducible refine jv (f := 75) rfl ?_);refine goesL_ (some 20) rfl rfl Tryz.func75 (by kernel_rfl) rfl #[.int .u8 (bt a0 x14_2)] rfl (by (try simp only [List.map_toArray,List.map_cons,List.map_nil]);first | done | rfl | (simp only [List.length_drop,List.length_take];rfl)) ?_;(with_reducible refine (xx.calls (bt a0 x14_2) true _ A9.out).mono ?_);rintro e w' ⟨rfl,⟨nd,rfl⟩⟩;refine ⟨_,rfl,?_⟩))
          go_roundg k2
          case measure => have := HJ1.out;have := HK2.out;omega
          case rel => exact ⟨(wrap64 (x14_2 + 1)),(by first | rfl | (simp;done) | (simp [*];done)),H',⟨by have := HJ1.out;have := HK2.out;omega⟩,by repeat (first | exact Drawn0.refl _ | apply Drawn0.step)⟩
         ·replace c10 := Bool.eq_false_iff.mpr c10
          subst c10
          have H1 : (if (bt a0 x14_2) = 45 then (xq.l0 k2 a0 (a0.size : Int) (wrap64 (x14_2 + 1))) else (if (bt a0 x14_2) = 46 then (xq.l0 k2 a0 (a0.size : Int) (wrap64 (x14_2 + 1))) else (some false))) = some r := by rw [if_neg (show ¬ (false = true) by decide)] at H;exact H
          clear H
          have H := H1
          clear H1
          by_cases c12 : (bt a0 x14_2) = 45
          ·rw [if_pos c12] at H
           have c12b0 : ((bt a0 x14_2) == 45) = true := beq_iff_eq.mpr c12
           have c12b1 : ((bt a0 x14_2) != 45) = false := bne_eq_false_iff_eq.mpr c12
           clear c12
           have H' := qq.mk H
           clear H
           have p8 : 0 ≤ (x14_2 : Int) := of_decide_eq_true (by assumption)
           have q8 : x14_2 < (a0.size : Int) := of_decide_eq_true (by assumption)
           have hx8 := bt_at a0 x14_2
           replace p8 := eq_true p8
           replace q8 := eq_true q8
           go_wp2_with (first | ((with_reducible refine jv (f := 75) rfl ?_);refine goesL_ (some 20) rfl rfl Tryz.func75 (by kernel_rfl) rfl #[.int .u8 (bt a0 x14_2)] rfl (by (try simp only [List.map_toArray,List.map_cons,List.map_nil]);first | done | rfl | (simp only [List.length_drop,List.length_take];rfl)) ?_;(with_reducible refine (xx.calls (bt a0 x14_2) false _ A9.out).mono ?_);rintro e w' ⟨rfl,⟨nd,rfl⟩⟩;refine ⟨_,rfl,?_⟩;have p11 : 0 ≤ (x14_2 : Int) := of_decide_eq_true (by assumption);have q11 : x14_2 < (a0.size : Int) := of_decide_eq_true (by assumption);have hx11 := bt_at a0 x14_2;replace p11 := eq_true p11;replace q11 := eq_true q11))
           go_roundg k2
           case measure => have := HJ1.out;have := HK2.out;omega
           case rel => exact ⟨(wrap64 (x14_2 + 1)),(by first | rfl | (simp;done) | (simp [*];done)),H',⟨by have := HJ1.out;have := HK2.out;omega⟩,by repeat (first | exact Drawn0.refl _ | apply Drawn0.step)⟩
          ·rw [if_neg c12] at H
           have c12b0 : ((bt a0 x14_2) == 45) = false := beq_eq_false_iff_ne.mpr c12
           have c12b1 : ((bt a0 x14_2) != 45) = true := bne_iff_ne.mpr c12
           by_cases c14 : (bt a0 x14_2) = 46
           ·rw [if_pos c14] at H
            have c14b0 : ((bt a0 x14_2) == 46) = true := beq_iff_eq.mpr c14
            have c14b1 : ((bt a0 x14_2) != 46) = false := bne_eq_false_iff_eq.mpr c14
            clear c14
            have H' := qq.mk H
            clear H
            have p8 : 0 ≤ (x14_2 : Int) := of_decide_eq_true (by assumption)
            have q8 : x14_2 < (a0.size : Int) := of_decide_eq_true (by assumption)
            have hx8 := bt_at a0 x14_2
            replace p8 := eq_true p8
            replace q8 := eq_true q8
            go_wp2_with (first | ((with_reducible refine jv (f := 75) rfl ?_);refine goesL_ (some 20) rfl rfl Tryz.func75 (by kernel_rfl) rfl #[.int .u8 (bt a0 x14_2)] rfl (by (try simp only [List.map_toArray,List.map_cons,List.map_nil]);first | done | rfl | (simp only [List.length_drop,List.length_take];rfl)) ?_;(with_reducible refine (xx.calls (bt a0 x14_2) false _ A9.out).mono ?_);rintro e w' ⟨rfl,⟨nd,rfl⟩⟩;refine ⟨_,rfl,?_⟩;have p11 : 0 ≤ (x14_2 : Int) := of_decide_eq_true (by assumption);have q11 : x14_2 < (a0.size : Int) := of_decide_eq_true (by assumption);have hx11 := bt_at a0 x14_2;replace p11 := eq_true p11;replace q11 := eq_true q11;have p13 : 0 ≤ (x14_2 : Int) := of_decide_eq_true (by assumption);have q13 : x14_2 < (a0.size : Int) := of_decide_eq_true (by assumption);have hx13 := bt_at a0 x14_2;replace p13 := eq_true p13;replace q13 := eq_true q13))
            go_roundg k2
            case measure => have := HJ1.out;have := HK2.out;omega
            case rel => exact ⟨(wrap64 (x14_2 + 1)),(by first | rfl | (simp;done) | (simp [*];done)),H',⟨by have := HJ1.out;have := HK2.out;omega⟩,by repeat (first | exact Drawn0.refl _ | apply Drawn0.step)⟩
           ·rw [if_neg c14] at H
            have c14b0 : ((bt a0 x14_2) == 46) = false := beq_eq_false_iff_ne.mpr c14
            have c14b1 : ((bt a0 x14_2) != 46) = true := bne_iff_ne.mpr c14
            obtain rfl := Option.some.inj H
            have p8 : 0 ≤ (x14_2 : Int) := of_decide_eq_true (by assumption)
            have q8 : x14_2 < (a0.size : Int) := of_decide_eq_true (by assumption)
            have hx8 := bt_at a0 x14_2
            replace p8 := eq_true p8
            replace q8 := eq_true q8
            go_wp2_with (first | ((with_reducible refine jv (f := 75) rfl ?_);refine goesL_ (some 20) rfl rfl Tryz.func75 (by kernel_rfl) rfl #[.int .u8 (bt a0 x14_2)] rfl (by (try simp only [List.map_toArray,List.map_cons,List.map_nil]);first | done | rfl | (simp only [List.length_drop,List.length_take];rfl)) ?_;(with_reducible refine (xx.calls (bt a0 x14_2) false _ A9.out).mono ?_);rintro e w' ⟨rfl,⟨nd,rfl⟩⟩;refine ⟨_,rfl,?_⟩;have p11 : 0 ≤ (x14_2 : Int) := of_decide_eq_true (by assumption);have q11 : x14_2 < (a0.size : Int) := of_decide_eq_true (by assumption);have hx11 := bt_at a0 x14_2;replace p11 := eq_true p11;replace q11 := eq_true q11;have p13 : 0 ≤ (x14_2 : Int) := of_decide_eq_true (by assumption);have q13 : x14_2 < (a0.size : Int) := of_decide_eq_true (by assumption);have hx13 := bt_at a0 x14_2;replace p13 := eq_true p13;replace q13 := eq_true q13))
            go_ret
            exact ⟨by first | rfl | (simp;done) | (simp [*];done),by repeat (first | exact Drawn0.refl _ | apply Drawn0.step)⟩
        ·rw [if_neg c7] at H
         exact absurd H (by simp)
       ·rw [if_neg c6] at H
        exact absurd H (by simp)
      ·rw [if_neg c5] at H
       have c5b0 : decide (x14_2 < (a0.size : Int)) = false := decide_eq_false c5
       clear c5
       obtain rfl := Option.some.inj H
       go_wp2
       go_ret
       exact ⟨by first | rfl | (simp;done) | (simp [*];done),by repeat (first | exact Drawn0.refl _ | apply Drawn0.step)⟩
end Go.Proofs.YtnbbbjfjkhglhaaGreatDoor.Pr
namespace Go.Proofs.YtnbbbjfjkhglhaaGreatDoor.Pr
open Go.RowKit Go.Proofs.YtnbbbjfjkhglhaaGreatDoorW.PrintWords Go.Proofs.YtnbbbjfjkhglhaaGreatDoorW.PrintLast Go.Proofs.YtnbbbjfjkhglhaaGreatDoorW.PrintMore
attribute [local go_sem] max2_int min2_int max_two min_two max_three min_three max_four min_four
set_option linter.unusedVariables false
set_option linter.unusedSimpArgs false
def ww.f (k : Nat) (a0_0 : ByteArray) (l0_1 : List (S30)) (l0_2 : List Int) : Option (Bool) := (xq.f k a0_0).bind fun t102 => (if t102 = true then (if (l0_1.length : Int) ≤ 20 then (if (l0_2.length : Int) = 16 then ((has_impl_ygoodCap_1.f k l0_1).bind fun t103 => (some (!t103))) else (some false)) else (some false)) else (some false))
set_option maxHeartbeats 8000000 in
set_option maxRecDepth 100000 in
theorem ww.calls (k : Nat) (a0_0 : ByteArray) (A0_1 : Option Addr) (c0_1 : Nat) (l0_1 : List (S30)) (A0_2 : Option Addr) (c0_2 : Nat) (l0_2 : List Int) (r : Bool) (w : World) (hr0_1 : Kd.C k30 w A0_1 l0_1.length l0_1) (hc0_1 : l0_1.length ≤ c0_1) (hr0_2 : Kd.C (Kd.int .u8) w A0_2 l0_2.length l0_2) (hc0_2 : l0_2.length ≤ c0_2) (h : ww.f k a0_0 l0_1 l0_2 = some r) :
  Calls Tryz.prog 32 #[.agg #[.string a0_0,.slice A0_1 l0_1.length c0_1,.slice A0_2 l0_2.length c0_2]] w fun e w' => e = .returned (.bool r) ∧ Below w.heap.size w w' := by
 have hu41 := Tryz.underlying41
 have HR0_1 := qq.mk hr0_1
 have HC0_1 := qq.mk hc0_1
 clear hr0_1 hc0_1
 have HR0_2 := qq.mk hr0_2
 have HC0_2 := qq.mk hc0_2
 clear hr0_2 hc0_2
 have HB := qq.mk (Below.refl w.heap.size w)
 have H : ((xq.f k a0_0).bind fun t102 => (if t102 = true then (if (l0_1.length : Int) ≤ 20 then (if (l0_2.length : Int) = 16 then ((has_impl_ygoodCap_1.f k l0_1).bind fun t103 => (some (!t103))) else (some false)) else (some false)) else (some false))) = some r := h
 clear h
 replace H := Option.bind_eq_some_iff.mp H
 obtain ⟨t102,A20,H⟩ := H
 replace H : (if t102 = true then (if (l0_1.length : Int) ≤ 20 then (if (l0_2.length : Int) = 16 then ((has_impl_ygoodCap_1.f k l0_1).bind fun t103 => (some (!t103))) else (some false)) else (some false)) else (some false)) = some r := H
 have A2 := qq.mk A20
 clear A20
 by_cases c3 : t102 = true
 ·subst c3
  have H1 : (if (l0_1.length : Int) ≤ 20 then (if (l0_2.length : Int) = 16 then ((has_impl_ygoodCap_1.f k l0_1).bind fun t103 => (some (!t103))) else (some false)) else (some false)) = some r := by rw [if_pos rfl] at H;exact H
  clear H
  have H := H1
  clear H1
  by_cases c4 : (l0_1.length : Int) ≤ 20
  ·rw [if_pos c4] at H
   have c4b0 : decide ((l0_1.length : Int) ≤ 20) = true := decide_eq_true c4
   have c4b1 : decide (l0_1.length ≤ 20) = true := decide_eq_true (by omega)
   clear c4
   by_cases c5 : (l0_2.length : Int) = 16
   ·rw [if_pos c5] at H
    have c5b0 : ((l0_2.length : Int) == 16) = true := beq_iff_eq.mpr c5
    have c5b1 : ((l0_2.length : Int) != 16) = false := bne_eq_false_iff_eq.mpr c5
    clear c5
    replace H := Option.bind_eq_some_iff.mp H
    obtain ⟨t103,A60,H⟩ := H
    replace H : (some (!t103)) = some r := H
    have A6 := qq.mk A60
    clear A60
    obtain rfl := Option.some.inj H
    go_enter Tryz.func32,Tryz.ntmps32
    go_wp2_with (first | ((with_reducible refine gate_dst (N := 1) rfl ?_);(try (refine gate_guard (by rfl) ?_;dsimp only));refine box_event ?hg (N := 1) ?hd (cs := #[.string a0_0,.slice A0_1 l0_1.length c0_1,.slice A0_2 l0_2.length c0_2]) (t := 41) ?hr ?_;(case hd => rfl);(case hg => rfl);(case hr => first | (go_simp;done) | (go_simp;rfl));intro gb101 hg w7 hbox hb;have n0_ := qq.mk (zv (by repeat (first | (with_reducible first | exact HB.out | apply qj | apply qz | apply qk) | exact HB.out)) hb);have n1_ := qq.mk (hbox);have n2_ := qq.mk ((by rw [hg];exact (zw (by repeat (first | (with_reducible first | exact HB.out | apply qj | apply qz | apply qk) | exact HB.out))) : w.heap.size ≤ gb101));have n3_ := qq.mk ((by rw [hg];exact (zw (by repeat (first | (with_reducible first | exact HB.out | apply qj | apply qz | apply qk) | exact HB.out))) : w.heap.size ≤ gb101));clear HB;have HB := n0_;have BK101 := n1_;have GW101 := n2_;have GE101 := n3_;clear n0_ n1_ n2_ n3_;clear hb hbox hg;have hcz8_0 : w7.cell? ⟨gb101,0,none⟩ = some (.string a0_0) := (qw BK101.out 0).trans rfl;have hcz8_1 : w7.cell? ⟨gb101,1,none⟩ = some (.slice A0_1 l0_1.length c0_1) := (qw BK101.out 1).trans rfl;have hcz8_2 : w7.cell? ⟨gb101,2,none⟩ = some (.slice A0_2 l0_2.length c0_2) := (qw BK101.out 2).trans rfl;have hfz8_0 := qv BK101.out 0;have hfz8_1 := qv BK101.out 1;have hfz8_2 := qv BK101.out 2) | ((with_reducible refine jv (f := 60) rfl ?_);refine goesL_ (some 5) rfl rfl Tryz.func60 (by kernel_rfl) rfl #[.string a0_0] rfl (by (try simp only [List.map_toArray,List.map_cons,List.map_nil]);first | done | rfl | (simp only [List.length_drop,List.length_take];rfl)) ?_;(with_reducible refine (xq.calls k a0_0 true _ A2.out).mono ?_);rintro e w' ⟨rfl,⟨nd,rfl⟩⟩;refine ⟨_,rfl,?_⟩) | (go_at_call 61;(with_reducible refine (has_impl_ygoodCap_1.calls k _ _ l0_1 t103 _ ?side1 ?side2 A6.out).mono ?_);(case side1 => repeat (first | exact (Kd.C_below HR0_1.out (by repeat (first | (with_reducible first | exact HB.out | apply qj | apply qz | apply qk | refine qx ?_ GE101.out) | exact HB.out))) | (with_reducible refine Kd.C_alloc ?_ _) | (with_reducible refine Kd.C_drewN ?_ _) | (with_reducible refine Kd.C_drew ?_)));(case side2 => exact HC0_1.out);rintro e w9 ⟨rfl,hb⟩;have n0_ := qq.mk (kw (g := gb101) (o := .cells #[.string a0_0,.slice A0_1 l0_1.length c0_1,.slice A0_2 l0_2.length c0_2] 41 (0,0)) (by (with_reducible repeat (first | refine zz ?_ _ | refine zj ?_ | refine zq ?_ _));exact BK101.out) hb);have n1_ := qq.mk (zv (by repeat (first | (with_reducible first | exact HB.out | apply qj | apply qz | apply qk | refine qx ?_ GE101.out) | exact HB.out)) hb);clear BK101;clear HB;have BK101 := n0_;have HB := n1_;clear n0_ n1_;(try clear hb);(try clear hb2);(try clear hk);(try clear hi)))
    go_ret
    exact ⟨by first | rfl | (simp [*,jk,jj] <;> rfl),by repeat (first | (with_reducible first | exact HB.out | apply qj | apply qz | apply qk | refine qx ?_ GE101.out) | exact HB.out)⟩
   ·rw [if_neg c5] at H
    have c5b0 : ((l0_2.length : Int) == 16) = false := beq_eq_false_iff_ne.mpr c5
    have c5b1 : ((l0_2.length : Int) != 16) = true := bne_iff_ne.mpr c5
    obtain rfl := Option.some.inj H
    go_enter Tryz.func32,Tryz.ntmps32
    go_wp2_with (first | ((with_reducible refine gate_dst (N := 1) rfl ?_);(try (refine gate_guard (by rfl) ?_;dsimp only));refine box_event ?hg (N := 1) ?hd (cs := #[.string a0_0,.slice A0_1 l0_1.length c0_1,.slice A0_2 l0_2.length c0_2]) (t := 41) ?hr ?_;(case hd => rfl);(case hg => rfl);(case hr => first | (go_simp;done) | (go_simp;rfl));intro gb101 hg w10 hbox hb;have n0_ := qq.mk (zv (by repeat (first | (with_reducible first | exact HB.out | apply qj | apply qz | apply qk) | exact HB.out)) hb);have n1_ := qq.mk (hbox);have n2_ := qq.mk ((by rw [hg];exact (zw (by repeat (first | (with_reducible first | exact HB.out | apply qj | apply qz | apply qk) | exact HB.out))) : w.heap.size ≤ gb101));have n3_ := qq.mk ((by rw [hg];exact (zw (by repeat (first | (with_reducible first | exact HB.out | apply qj | apply qz | apply qk) | exact HB.out))) : w.heap.size ≤ gb101));clear HB;have HB := n0_;have BK101 := n1_;have GW101 := n2_;have GE101 := n3_;clear n0_ n1_ n2_ n3_;clear hb hbox hg;have hcz11_0 : w10.cell? ⟨gb101,0,none⟩ = some (.string a0_0) := (qw BK101.out 0).trans rfl;have hcz11_1 : w10.cell? ⟨gb101,1,none⟩ = some (.slice A0_1 l0_1.length c0_1) := (qw BK101.out 1).trans rfl;have hcz11_2 : w10.cell? ⟨gb101,2,none⟩ = some (.slice A0_2 l0_2.length c0_2) := (qw BK101.out 2).trans rfl;have hfz11_0 := qv BK101.out 0;have hfz11_1 := qv BK101.out 1;have hfz11_2 := qv BK101.out 2) | ((with_reducible refine jv (f := 60) rfl ?_);refine goesL_ (some 5) rfl rfl Tryz.func60 (by kernel_rfl) rfl #[.string a0_0] rfl (by (try simp only [List.map_toArray,List.map_cons,List.map_nil]);first | done | rfl | (simp only [List.length_drop,List.length_take];rfl)) ?_;(with_reducible refine (xq.calls k a0_0 true _ A2.out).mono ?_);rintro e w' ⟨rfl,⟨nd,rfl⟩⟩;refine ⟨_,rfl,?_⟩))
    go_ret
    exact ⟨by first | rfl | (simp [*,jk,jj] <;> rfl),by repeat (first | (with_reducible first | exact HB.out | apply qj | apply qz | apply qk | refine qx ?_ GE101.out) | exact HB.out)⟩
  ·rw [if_neg c4] at H
   have c4b0 : decide ((l0_1.length : Int) ≤ 20) = false := decide_eq_false c4
   have c4b1 : decide (l0_1.length ≤ 20) = false := decide_eq_false (by omega)
   clear c4
   obtain rfl := Option.some.inj H
   go_enter Tryz.func32,Tryz.ntmps32
   go_wp2_with (first | ((with_reducible refine gate_dst (N := 1) rfl ?_);(try (refine gate_guard (by rfl) ?_;dsimp only));refine box_event ?hg (N := 1) ?hd (cs := #[.string a0_0,.slice A0_1 l0_1.length c0_1,.slice A0_2 l0_2.length c0_2]) (t := 41) ?hr ?_;(case hd => rfl);(case hg => rfl);(case hr => first | (go_simp;done) | (go_simp;rfl));intro gb101 hg w12 hbox hb;have n0_ := qq.mk (zv (by repeat (first | (with_reducible first | exact HB.out | apply qj | apply qz | apply qk) | exact HB.out)) hb);have n1_ := qq.mk (hbox);have n2_ := qq.mk ((by rw [hg];exact (zw (by repeat (first | (with_reducible first | exact HB.out | apply qj | apply qz | apply qk) | exact HB.out))) : w.heap.size ≤ gb101));have n3_ := qq.mk ((by rw [hg];exact (zw (by repeat (first | (with_reducible first | exact HB.out | apply qj | apply qz | apply qk) | exact HB.out))) : w.heap.size ≤ gb101));clear HB;have HB := n0_;have BK101 := n1_;have GW101 := n2_;have GE101 := n3_;clear n0_ n1_ n2_ n3_;clear hb hbox hg;have hcz13_0 : w12.cell? ⟨gb101,0,none⟩ = some (.string a0_0) := (qw BK101.out 0).trans rfl;have hcz13_1 : w12.cell? ⟨gb101,1,none⟩ = some (.slice A0_1 l0_1.length c0_1) := (qw BK101.out 1).trans rfl;have hcz13_2 : w12.cell? ⟨gb101,2,none⟩ = some (.slice A0_2 l0_2.length c0_2) := (qw BK101.out 2).trans rfl;have hfz13_0 := qv BK101.out 0;have hfz13_1 := qv BK101.out 1;have hfz13_2 := qv BK101.out 2) | ((with_reducible refine jv (f := 60) rfl ?_);refine goesL_ (some 5) rfl rfl Tryz.func60 (by kernel_rfl) rfl #[.string a0_0] rfl (by (try simp only [List.map_toArray,List.map_cons,List.map_nil]);first | done | rfl | (simp only [List.length_drop,List.length_take];rfl)) ?_;(with_reducible refine (xq.calls k a0_0 true _ A2.out).mono ?_);rintro e w' ⟨rfl,⟨nd,rfl⟩⟩;refine ⟨_,rfl,?_⟩))
   go_ret
   exact ⟨by first | rfl | (simp [*,jk,jj] <;> rfl),by repeat (first | (with_reducible first | exact HB.out | apply qj | apply qz | apply qk | refine qx ?_ GE101.out) | exact HB.out)⟩
 ·replace c3 := Bool.eq_false_iff.mpr c3
  subst c3
  have H1 : (some false) = some r := by rw [if_neg (show ¬ (false = true) by decide)] at H;exact H
  clear H
  have H := H1
  clear H1
  obtain rfl := Option.some.inj H
  go_enter Tryz.func32,Tryz.ntmps32
  go_wp2_with (first | ((with_reducible refine gate_dst (N := 1) rfl ?_);(try (refine gate_guard (by rfl) ?_;dsimp only));refine box_event ?hg (N := 1) ?hd (cs := #[.string a0_0,.slice A0_1 l0_1.length c0_1,.slice A0_2 l0_2.length c0_2]) (t := 41) ?hr ?_;(case hd => rfl);(case hg => rfl);(case hr => first | (go_simp;done) | (go_simp;rfl));intro gb101 hg w14 hbox hb;have n0_ := qq.mk (zv (by repeat (first | (with_reducible first | exact HB.out | apply qj | apply qz | apply qk) | exact HB.out)) hb);have n1_ := qq.mk (hbox);have n2_ := qq.mk ((by rw [hg];exact (zw (by repeat (first | (with_reducible first | exact HB.out | apply qj | apply qz | apply qk) | exact HB.out))) : w.heap.size ≤ gb101));have n3_ := qq.mk ((by rw [hg];exact (zw (by repeat (first | (with_reducible first | exact HB.out | apply qj | apply qz | apply qk) | exact HB.out))) : w.heap.size ≤ gb101));clear HB;have HB := n0_;have BK101 := n1_;have GW101 := n2_;have GE101 := n3_;clear n0_ n1_ n2_ n3_;clear hb hbox hg;have hcz15_0 : w14.cell? ⟨gb101,0,none⟩ = some (.string a0_0) := (qw BK101.out 0).trans rfl;have hcz15_1 : w14.cell? ⟨gb101,1,none⟩ = some (.slice A0_1 l0_1.length c0_1) := (qw BK101.out 1).trans rfl;have hcz15_2 : w14.cell? ⟨gb101,2,none⟩ = some (.slice A0_2 l0_2.length c0_2) := (qw BK101.out 2).trans rfl;have hfz15_0 := qv BK101.out 0;have hfz15_1 := qv BK101.out 1;have hfz15_2 := qv BK101.out 2) | ((with_reducible refine jv (f := 60) rfl ?_);refine goesL_ (some 5) rfl rfl Tryz.func60 (by kernel_rfl) rfl #[.string a0_0] rfl (by (try simp only [List.map_toArray,List.map_cons,List.map_nil]);first | done | rfl | (simp only [List.length_drop,List.length_take];rfl)) ?_;(with_reducible refine (xq.calls k a0_0 false _ A2.out).mono ?_);rintro e w' ⟨rfl,⟨nd,rfl⟩⟩;refine ⟨_,rfl,?_⟩))
  go_ret
  exact ⟨by first | rfl | (simp [*,jk,jj] <;> rfl),by repeat (first | (with_reducible first | exact HB.out | apply qj | apply qz | apply qk | refine qx ?_ GE101.out) | exact HB.out)⟩
end Go.Proofs.YtnbbbjfjkhglhaaGreatDoor.Pr
namespace Go.Proofs.YtnbbbjfjkhglhaaGreatDoor.Pr
open Go.RowKit Go.Shelf Go.Proofs.YtnbbbjfjkhglhaaGreatDoorW.PrintWords Go.Proofs.YtnbbbjfjkhglhaaGreatDoorW.PrintLast Go.Proofs.YtnbbbjfjkhglhaaGreatDoorW.PrintMore
set_option linter.unusedVariables false
set_option linter.unusedSimpArgs false
def capLines (k : Nat) : List S30 → List UInt8 → Option (List UInt8)
 | [],acc => some acc
 | x :: xs,acc => (wk.f k x.f0 x.f1 x.f2 x.f3.f0 x.f3.f1 x.f3.f2 x.f3.f3).bind fun t => if acc.length + t.size + 1 ≤ 1000000000 then capLines k xs (acc ++ (t.data.toList ++ [10])) else none
theorem builder_below {T e : TypeId} {B b : Nat} {bs : List Value} {w w' : World} (h : Lib.IsBuilder T e B b bs w) (hb : Below w.heap.size w w') : Lib.IsBuilder T e B b bs w' := by
 have key : ∀ p,Lib.BuilderAt T e B b p bs w → Lib.BuilderAt T e B b p bs w' := by
  rintro p ⟨h1,v,h2,h3,h4⟩
  refine ⟨h1,v,kw h2 hb,?_,h4⟩
  refine ⟨h3.1,?_⟩
  rcases h3.2 with h5 | ⟨g,cap,cur,h5,h6,h7,h8⟩
  ·exact .inl h5
  ·exact .inr ⟨g,cap,cur,h5,h6,kw h7 hb,h8⟩
 exact h.elim (fun h => .inl (key _ h)) (fun h => .inr (key _ h))
def capHead (id : ByteArray) : ByteArray := ((⟨#[99,97,112,126]⟩ : ByteArray) ++ id) ++ (⟨#[126]⟩ : ByteArray)
def wq.f (k : Nat) (a0_0 : ByteArray) (l0_1 : List S30) (l0_2 : List Int) : Option ByteArray :=
 (ww.f k a0_0 l0_1 l0_2).bind fun g => if g = true then ((capLines k l0_1 []).bind fun ts => (vw.f (bytesOf ⟨ts.toArray⟩)).bind fun b1 => (vw.f l0_2).bind fun b2 => if l0_1.length ≤ 1000000 ∧ a0_0.size ≤ 1000000000 ∧ b1.size ≤ 1000000000 ∧ b2.size ≤ 1000000000 ∧ ts.length ≤ 1000000000 then some (((capHead a0_0 ++ b1) ++ (⟨#[126]⟩ : ByteArray)) ++ b2) else none) else some ⟨#[]⟩
theorem capLines_drop {k : Nat} {l : List S30} {i : Nat} (h : i < l.length) {acc ts : List UInt8} (hr : capLines k (l.drop i) acc = some ts) : ∃ t,wk.f k l[i].f0 l[i].f1 l[i].f2 l[i].f3.f0 l[i].f3.f1 l[i].f3.f2 l[i].f3.f3 = some t ∧ acc.length + t.size + 1 ≤ 1000000000 ∧ capLines k (l.drop (i + 1)) (acc ++ (t.data.toList ++ [10])) = some ts := by
 rw [List.drop_eq_getElem_cons h,capLines] at hr
 obtain ⟨t,ht,hr⟩ := Option.bind_eq_some_iff.mp hr
 by_cases hc : acc.length + t.size + 1 ≤ 1000000000
 ·rw [if_pos hc] at hr;exact ⟨t,ht,hc,hr⟩
 ·rw [if_neg hc] at hr;cases hr
theorem cell_str (acc : List UInt8) (t : ByteArray) : Lib.byteCells acc ++ Lib.strCells (t ++ (⟨#[10]⟩ : ByteArray)) = Lib.byteCells (acc ++ (t.data.toList ++ [10])) := by
 rw [Lib.strCells_eq,Lib.byteCells_append]
 congr 2
set_option maxHeartbeats 8000000 in
set_option maxRecDepth 100000 in
theorem wq.calls (k : Nat) (a0_0 : ByteArray) (A0_1 : Option Addr) (c0_1 : Nat) (l0_1 : List S30) (A0_2 : Option Addr) (c0_2 : Nat) (l0_2 : List Int) (r : ByteArray) (w : World) (htab : TabW w) (hr0_1 : Kd.C k30 w A0_1 l0_1.length l0_1) (hc0_1 : l0_1.length ≤ c0_1) (hr0_2 : Kd.C (Kd.int .u8) w A0_2 l0_2.length l0_2) (hc0_2 : l0_2.length ≤ c0_2) (h : wq.f k a0_0 l0_1 l0_2 = some r) :
  Calls Tryz.prog 13 #[.agg #[.string a0_0,.slice A0_1 l0_1.length c0_1,.slice A0_2 l0_2.length c0_2]] w fun e w' => e = .returned (.string r) ∧ Below w.heap.size w w' := by
 have HTAB := qq.mk htab
 have HR1 := qq.mk hr0_1
 have HC1 := qq.mk hc0_1
 have HR2 := qq.mk hr0_2
 have HC2 := qq.mk hc0_2
 clear htab hr0_1 hc0_1 hr0_2 hc0_2
 obtain ⟨g,hg,h⟩ := Option.bind_eq_some_iff.mp h
 have HG := qq.mk hg
 clear hg
 have hu41 := Tryz.underlying41
 have hu30 := Tryz.underlying30
 have hal := fun (o : Obj) => qj (Below.refl w.heap.size w) o
 have HAL := qq.mk hal
 clear hal
 cases g with
 | false =>
  rw [if_neg (by decide)] at h
  obtain rfl := Option.some.inj h
  clear h
  go_enter Tryz.func13,Tryz.ntmps13
  go_wp2_with (first | (go_at_call 32;go_loud (refine (ww.calls k a0_0 _ _ l0_1 _ _ l0_2 _ _ (Kd.C_below HR1.out (HAL.out _)) HC1.out (Kd.C_below HR2.out (HAL.out _)) HC2.out HG.out).mono ?_;rintro e w1 ⟨rfl,hb⟩;have HB1 := qq.mk ((HAL.out _).trans (hb.mono (HAL.out _).size));clear hb)))
  go_ret
  exact ⟨rfl,HB1.out⟩
 | true =>
  rw [if_pos rfl] at h
  obtain ⟨ts,hts,h⟩ := Option.bind_eq_some_iff.mp h
  obtain ⟨b1,hb1,h⟩ := Option.bind_eq_some_iff.mp h
  obtain ⟨b2,hb2,h⟩ := Option.bind_eq_some_iff.mp h
  by_cases hc : l0_1.length ≤ 1000000 ∧ a0_0.size ≤ 1000000000 ∧ b1.size ≤ 1000000000 ∧ b2.size ≤ 1000000000 ∧ ts.length ≤ 1000000000
  case neg => rw [if_neg hc] at h;cases h
  rw [if_pos hc] at h
  obtain rfl := Option.some.inj h
  have HCC := qq.mk hc
  have HTS := qq.mk hts
  have HB1A := qq.mk hb1
  have HB2A := qq.mk hb2
  clear h hc hts hb1 hb2
  go_enter Tryz.func13,Tryz.ntmps13
  go_wp2_with (first | (go_at_call 32;go_loud (refine (ww.calls k a0_0 _ _ l0_1 _ _ l0_2 _ _ (Kd.C_below HR1.out (HAL.out _)) HC1.out (Kd.C_below HR2.out (HAL.out _)) HC2.out HG.out).mono ?_;rintro e w1 ⟨rfl,hb⟩;have HB1 := qq.mk ((HAL.out _).trans (hb.mono (HAL.out _).size));have HBK := qq.mk (kw (blk_new w _) hb);clear hb;have k0 : (w1.alloc (.cells #[.pointer none,.slice none 0 0] 62)).cell? ⟨w.heap.size,1,none⟩ = some (.slice A0_1 l0_1.length c0_1) := qw (zq HBK.out _) 1))
   )
  clear k0
  have HBW0 := qq.mk (qj HB1.out (.cells #[.pointer none,.slice none 0 0] 62 (0,0)))
  have HI0 := qq.mk (Lib.fresh_isBuilder 62 5 w1)
  have HBK0 := qq.mk (zq HBK.out (.cells #[.pointer none,.slice none 0 0] 62 (0,0)))
  have HBL0 : qq (w.heap.size ≤ w1.heap.size) := ⟨HB1.out.size⟩
  have HBG0 : qq (w.heap.size < w1.heap.size) := ⟨blk_lt HBK.out⟩
  have HWS0 : qq (w1.heap.size ≤ (w1.alloc (.cells #[.pointer none,.slice none 0 0] 62 (0,0))).heap.size) := ⟨by rw [World.size_alloc];omega⟩
  clear HBK
  generalize w1.alloc (.cells #[.pointer none,.slice none 0 0] 62 (0,0)) = w2 at HBW0 HI0 HBK0 HWS0 ⊢
  obtain ⟨B,eB⟩ : ∃ B,B = w1.heap.size := ⟨_,rfl⟩
  rw [← eB] at HI0 HBL0 HBG0 HWS0
  simp only [← eB]
  clear eB HB1
  go_loopw [12] (fun v12 W => ∃ (i : Nat) (acc : List UInt8),v12 = .int .i64 i ∧ qq (i ≤ l0_1.length) ∧ qq (capLines k (l0_1.drop i) acc = some ts) ∧ qq (Lib.IsBuilder 62 5 B B (Lib.byteCells acc) W) ∧ qq (Below w.heap.size w W) ∧ qq (Below B w2 W)) (fun v12 _ => l0_1.length - (intOf v12).toNat)
  case atStart => exact ⟨0,[],rfl,⟨Nat.zero_le _⟩,HTS,HI0,HBW0,⟨Below.refl _ _⟩⟩
  case round =>
   clear HI0 HBW0 HTS
   obtain ⟨i,acc,rfl,HI,HTS,HIB,HB,HBB⟩ := hrel
   by_cases hlt : i < l0_1.length
   ·obtain ⟨t,ht,hroom,hnext⟩ := capLines_drop hlt HTS.out
    have hl1 : decide ((i : Int) < (l0_1.length : Int)) = true := decide_eq_true (by omega)
    have hl2 : decide (i < l0_1.length) = true := decide_eq_true hlt
    have p1 : (0 ≤ (i : Int)) = True := eq_true (by omega)
    have q1 : ((i : Int) < (l0_1.length : Int)) = True := eq_true (by omega)
    have e3 : wrap64 ((i : Int) + 1) = ((i + 1 : Nat) : Int) := by have := HCC.out.1;unfold wrap64;omega
    obtain ⟨ad,ead,hx0,hx1,hx2,hx3,hx4,hx5,hx6⟩ := at_T30 (Kd.C_below HR1.out HB.out) (i : Int) (by omega) (by omega)
    cases ead
    have ex : vz l0_1 (i : Int) = l0_1[i] := by simp [vz,List.getD_eq_getElem?_getD,List.getElem?_eq_getElem hlt]
    rw [← ex] at ht
    clear ex
    generalize vz l0_1 (i : Int) = x at ht hx0 hx1 hx2 hx3 hx4 hx5 hx6
    rw [Int.toNat_natCast] at hx0 hx1 hx2 hx3 hx4 hx5 hx6
    have HT := qq.mk ht
    have HRM := qq.mk hroom
    have HNX := qq.mk hnext
    have HLT := qq.mk hlt
    have s1 : ¬ 9223372036854775807 < t.size + 1 := by omega
    have HBS : qq (B ≤ wr.heap.size) := ⟨Nat.le_trans HWS0.out HBB.out.size⟩
    clear ht hroom hnext hlt
    go_wp2_with (first | ((with_reducible refine gate_dst (N := 5) rfl ?_);refine box_event ?hg (N := 5) ?hd (cs := #[.string (⟨#[]⟩ : ByteArray),.int .i64 0,.string (⟨#[]⟩ : ByteArray),.int .i64 0,.int .i64 0,.string (⟨#[]⟩ : ByteArray),.string (⟨#[]⟩ : ByteArray)]) (t := 30) ?hr ?_;(case hd => rfl);(case hg => rfl);(case hr => first | (go_simp;done) | (go_simp;rfl));intro g5 hg5 w4 hbox hb;have z0 : w4.cell? ⟨g5,0,none⟩ = some (.string (⟨#[]⟩ : ByteArray)) := (qw hbox 0).trans rfl;have f0 := qv hbox 0;have z1 : w4.cell? ⟨g5,1,none⟩ = some (.int .i64 0) := (qw hbox 1).trans rfl;have f1 := qv hbox 1;have z2 : w4.cell? ⟨g5,2,none⟩ = some (.string (⟨#[]⟩ : ByteArray)) := (qw hbox 2).trans rfl;have f2 := qv hbox 2;have z3 : w4.cell? ⟨g5,3,none⟩ = some (.int .i64 0) := (qw hbox 3).trans rfl;have f3 := qv hbox 3;have z4 : w4.cell? ⟨g5,4,none⟩ = some (.int .i64 0) := (qw hbox 4).trans rfl;have f4 := qv hbox 4;have z5 : w4.cell? ⟨g5,5,none⟩ = some (.string (⟨#[]⟩ : ByteArray)) := (qw hbox 5).trans rfl;have f5 := qv hbox 5;have z6 : w4.cell? ⟨g5,6,none⟩ = some (.string (⟨#[]⟩ : ByteArray)) := (qw hbox 6).trans rfl;have f6 := qv hbox 6;have HBX := qq.mk hb;have HG5 : qq (wr.heap.size ≤ g5) := ⟨by rw [hg5];exact Nat.le_refl _⟩;clear hb hbox hg5))
    clear z0 z1 z2 z3 z4 z5 z6 f0 f1 f2 f3 f4 f5 f6
    have HBY := qq.mk (qx (j := 6) (v := .string x.f3.f3) (qx (j := 5) (v := .string x.f3.f2) (qx (j := 4) (v := .int .i64 x.f3.f1) (qx (j := 3) (v := .int .i64 x.f3.f0) (qx (j := 2) (v := .string x.f2) (qx (j := 1) (v := .int .i64 x.f1) (qx (j := 0) (v := .string x.f0) HBX.out HG5.out) HG5.out) HG5.out) HG5.out) HG5.out) HG5.out) HG5.out)
    clear HBX HG5
    go_at_call 9
    refine (wk.calls k x.f0 x.f1 x.f2 x.f3.f0 x.f3.f1 x.f3.f2 x.f3.f3 t _ (TabW_below HTAB.out (HB.out.trans (HBY.out.mono HB.out.size))) HT.out).mono ?_
    rintro e w6 ⟨rfl,hb6⟩
    have HB6 := qq.mk (HBY.out.trans (hb6.mono HBY.out.size))
    clear hb6 HBY
    have HIB6 := qq.mk (builder_below HIB.out HB6.out)
    have HBS6 : qq (B ≤ w6.heap.size) := ⟨Nat.le_trans HBS.out HB6.out.size⟩
    have HLEN : qq ((Lib.byteCells acc).length + (t ++ (⟨#[10]⟩ : ByteArray)).size ≤ 140737488355328) := ⟨by rw [Lib.byteCells_length,ByteArray.size_append,show (⟨#[10]⟩ : ByteArray).size = 1 from rfl];have := HRM.out;omega⟩
    clear HIB
    go_wp2_with (first | (go_at_call 33;go_loud (refine (writeString_calls B B (Lib.byteCells acc) (t ++ (⟨#[10]⟩ : ByteArray)) w6 HIB6.out HLEN.out HBS6.out).mono ?_;rintro e w7 ⟨rfl,h7,hb7⟩;have HIB7 : qq (Lib.IsBuilder 62 5 B B (Lib.byteCells (acc ++ (t.data.toList ++ [10]))) w7) := ⟨by rw [← cell_str];exact .inr h7⟩;have HB7 := qq.mk ((HB.out.trans (HB6.out.mono HB.out.size)).trans (hb7.mono HBL0.out));have HBB7 := qq.mk ((HBB.out.trans (HB6.out.mono HBS.out)).trans hb7);clear h7 hb7)))
    try simp only [e3]
    go_roundw
    case rel => exact ⟨i + 1,_,rfl,⟨HLT.out⟩,HNX,HIB7,HB7,HBB7⟩
    case measure =>
     show l0_1.length - (((i + 1 : Nat) : Int)).toNat < l0_1.length - ((i : Int)).toNat
     rw [Int.toNat_natCast,Int.toNat_natCast]
     exact Nat.sub_lt_sub_left HLT.out (Nat.lt_succ_self i)
   ·obtain rfl : i = l0_1.length := by have := HI.out;omega
    have hl1 : decide ((l0_1.length : Int) < (l0_1.length : Int)) = false := decide_eq_false (by omega)
    have hl2 : decide (l0_1.length < l0_1.length) = false := decide_eq_false (by omega)
    have eacc : acc = ts := by have h := HTS.out;rw [List.drop_length] at h;exact Option.some.inj h
    subst eacc
    have hK : ∀ W',Below B wr W' → W'.cell? ⟨w.heap.size,0,none⟩ = some (.string a0_0) ∧ W'.cell? ⟨w.heap.size,2,none⟩ = some (.slice A0_2 l0_2.length c0_2) := fun W' hb => by
     have hbk := (hb.block _ HBG0.out).trans ((HBB.out.block _ HBG0.out).trans HBK0.out)
     exact ⟨qw hbk 0,qw hbk 2⟩
    obtain ⟨k0,k2⟩ := hK wr (Below.refl _ _)
    have HBO : qq (bytesOfS.f (⟨acc.toArray⟩ : ByteArray) = some (bytesOf ⟨acc.toArray⟩)) := ⟨by unfold bytesOfS.f;rw [if_pos (by rw [show (⟨acc.toArray⟩ : ByteArray).size = acc.length from List.size_toArray];have := HCC.out.2.2.2.2;omega)]⟩
    have HBS : qq (B ≤ wr.heap.size) := ⟨Nat.le_trans HWS0.out HBB.out.size⟩
    obtain ⟨g1,g2,g3,g4,g5⟩ := HCC.out
    have s1 : ¬ 9223372036854775807 < 4 + a0_0.size := by omega
    have s2 : ¬ 9223372036854775807 < 4 + a0_0.size + 1 := by omega
    have s3 : ¬ 9223372036854775807 < 4 + a0_0.size + 1 + b1.size := by omega
    have s4 : ¬ 9223372036854775807 < 4 + a0_0.size + 1 + b1.size + 1 := by omega
    have s5 : ¬ 9223372036854775807 < 4 + a0_0.size + 1 + b1.size + 1 + b2.size := by omega
    clear hlt HI HTS g1 g2 g3 g4 g5
    go_wp2
    refine start_ (n := 14) (S := fun w' => w'.cell? ⟨w.heap.size,0,none⟩ = some (.string a0_0) ∧ w'.cell? ⟨w.heap.size,2,none⟩ = some (.slice A0_2 l0_2.length c0_2)) (ds := []) #[false,false,false,false,false,false,false,false,false,false,false,false,false,false] (by kernel_rfl) rfl rfl (hK _ (Below.refl _ _).drew) (fun hHeld => ?_)
    have HBd := qq.mk ((Below.refl B wr).drew)
    have HIBd := qq.mk (builder_below HIB.out (Below.refl _ _).drew)
    have HBSd : qq (B ≤ wr.drew.heap.size) := ⟨Nat.le_trans HBS.out HBd.out.size⟩
    clear k0 k2 HIB
    generalize wr.drew = wd at HBd HIBd HBSd hHeld ⊢
    refine pure_ (i := 0) (N := some 21) (v := ?_) (a' := ?_) #[true,false,false,false,false,false,false,false,false,false,false,false,false,false] rfl rfl (by kernel_rfl) (fun _ _ _ h => h) (Or.inl ⟨by rfl,?_⟩) ?_ ?_
    rotate_left
    ·intro w'
     go_simp
     with_reducible rfl
    rotate_left
    ·simp only [Act.put,List.setIfInBounds_toArray,List.set_cons_zero,List.set_cons_succ,i64_w,i32_w]
     rfl
    refine pure_ (i := 9) (N := some 30) (v := ?_) (a' := ?_) #[true,false,false,false,false,false,false,false,false,true,false,false,false,false] rfl rfl (by kernel_rfl) (fun _ _ _ h => h) (Or.inl ⟨by rfl,?_⟩) ?_ ?_
    rotate_left
    ·intro w'
     go_simp
     with_reducible rfl
    rotate_left
    ·simp only [Act.put,List.setIfInBounds_toArray,List.set_cons_zero,List.set_cons_succ,i64_w,i32_w]
     rfl
    refine take_ (i := 1) (N := some 22) (v := ?_) (a' := ?_) #[true,true,false,false,false,false,false,false,false,true,false,false,false,false] rfl rfl (by kernel_rfl) (fun _ _ _ h => h) (Or.inl ⟨by rfl,?_⟩) hHeld ?_ ?_
    rotate_left
    ·rintro w' ⟨s0,s1⟩
     go_simp
     with_reducible rfl
    rotate_left
    ·simp only [Act.put,List.setIfInBounds_toArray,List.set_cons_zero,List.set_cons_succ,i64_w,i32_w]
     rfl
    refine pure_ (i := 2) (N := some 23) (v := ?_) (a' := ?_) #[true,true,true,false,false,false,false,false,false,true,false,false,false,false] rfl rfl (by kernel_rfl) (fun _ _ _ h => h) (Or.inl ⟨by rfl,?_⟩) ?_ ?_
    rotate_left
    ·intro w'
     go_simp
     with_reducible rfl
    rotate_left
    ·simp only [Act.put,List.setIfInBounds_toArray,List.set_cons_zero,List.set_cons_succ,i64_w,i32_w]
     rfl
    refine pure_ (i := 3) (N := some 24) (v := ?_) (a' := ?_) #[true,true,true,true,false,false,false,false,false,true,false,false,false,false] rfl rfl (by kernel_rfl) (fun _ _ _ h => h) (Or.inl ⟨by rfl,?_⟩) ?_ ?_
    rotate_left
    ·intro w'
     go_simp
     with_reducible rfl
    rotate_left
    ·simp only [Act.put,List.setIfInBounds_toArray,List.set_cons_zero,List.set_cons_succ,i64_w,i32_w]
     rfl
    refine take_ (i := 10) (N := some 31) (v := ?_) (a' := ?_) #[true,true,true,true,false,false,false,false,false,true,true,false,false,false] rfl rfl (by kernel_rfl) (fun _ _ _ h => h) (Or.inl ⟨by rfl,?_⟩) hHeld ?_ ?_
    rotate_left
    ·rintro w' ⟨s0,s1⟩
     go_simp
     with_reducible rfl
    rotate_left
    ·simp only [Act.put,List.setIfInBounds_toArray,List.set_cons_zero,List.set_cons_succ,i64_w,i32_w]
     rfl
    refine one_ (i := 4) (N := some 25) #[true,true,true,true,true,false,false,false,false,true,true,false,false,false] rfl rfl (by kernel_rfl) (by decide) (fun K hKK => ?_)
    refine goes_ Tryz.func35 (by kernel_rfl) rfl #[.pointer (some ⟨B,0,none⟩)] (by rfl) rfl rfl (by (try simp only [List.map_toArray,List.map_cons,List.map_nil]);first | done | rfl) ?_
    refine (string_calls B B acc _ HIBd.out HBSd.out).mono ?_
    rintro e w5 ⟨rfl,hb5⟩
    refine ⟨_,rfl,?_⟩
    have HQ1 := qq.mk (HBd.out.trans hb5)
    have HQ1S := qq.mk (Nat.le_trans HBS.out HQ1.out.size)
    clear hb5
    refine hKK.out _ _ (hK _ HQ1.out) (fun hHeld => ?_)
    clear hKK K
    refine norm_ (a' := ?_) ?_ ?_
    rotate_left
    ·show Act.put _ (some 25) _ = _
     simp only [Act.put,List.setIfInBounds_toArray,List.set_cons_zero,List.set_cons_succ,i64_w,i32_w]
     rfl
    refine one_ (i := 5) (N := some 26) #[true,true,true,true,true,true,false,false,false,true,true,false,false,false] rfl rfl (by kernel_rfl) (by decide) (fun K hKK => ?_)
    refine bytesGoes_ (s := (⟨acc.toArray⟩ : ByteArray)) (by rfl) rfl rfl rfl ?_
    with_reducible refine (bytesOfS.calls (⟨acc.toArray⟩ : ByteArray) (bytesOf ⟨acc.toArray⟩) _ HBO.out).mono ?_
    rintro e w6 ⟨v6,rfl,ho,hb6⟩
    refine ⟨_,rfl,?_⟩
    have HO := qq.mk ho
    have HQ2 := qq.mk (HQ1.out.trans (hb6.mono HQ1S.out))
    have HQ2S := qq.mk (Nat.le_trans HBS.out HQ2.out.size)
    clear hb6 ho
    obtain ⟨Ao,co,eo⟩ := Kd.V_slice HO.out
    subst eo
    refine hKK.out _ _ (hK _ HQ2.out) (fun hHeld => ?_)
    clear hKK K
    refine norm_ (a' := ?_) ?_ ?_
    rotate_left
    ·show Act.put _ (some 26) _ = _
     simp only [Act.put,List.setIfInBounds_toArray,List.set_cons_zero,List.set_cons_succ,i64_w,i32_w]
     rfl
    refine one_ (i := 6) (N := some 27) #[true,true,true,true,true,true,true,false,false,true,true,false,false,false] rfl rfl (by kernel_rfl) (by decide) (fun K hKK => ?_)
    refine goes_ Tryz.func34 (by kernel_rfl) rfl #[.slice Ao (bytesOf ⟨acc.toArray⟩).length co] (by rfl) rfl rfl (by (try simp only [List.map_toArray,List.map_cons,List.map_nil]);first | done | rfl) ?_
    refine (vw.calls Ao co (bytesOf ⟨acc.toArray⟩) b1 w6 (Kd.V_reads' HO.out).2.2 (Kd.V_reads' HO.out).2.1 HB1A.out).mono ?_
    rintro e w7 ⟨rfl,hb7⟩
    refine ⟨_,rfl,?_⟩
    have HQ3 := qq.mk (HQ2.out.trans (hb7.mono HQ2S.out))
    have HQ3S := qq.mk (Nat.le_trans HBS.out HQ3.out.size)
    clear hb7
    refine hKK.out _ _ (hK _ HQ3.out) (fun hHeld => ?_)
    clear hKK K
    refine norm_ (a' := ?_) ?_ ?_
    rotate_left
    ·show Act.put _ (some 27) _ = _
     simp only [Act.put,List.setIfInBounds_toArray,List.set_cons_zero,List.set_cons_succ,i64_w,i32_w]
     rfl
    refine pure_ (i := 7) (N := some 28) (v := ?_) (a' := ?_) #[true,true,true,true,true,true,true,true,false,true,true,false,false,false] rfl rfl (by kernel_rfl) (fun _ _ _ h => h) (Or.inl ⟨by rfl,?_⟩) ?_ ?_
    rotate_left
    ·intro w'
     go_simp
     with_reducible rfl
    rotate_left
    ·simp only [Act.put,List.setIfInBounds_toArray,List.set_cons_zero,List.set_cons_succ,i64_w,i32_w]
     rfl
    refine pure_ (i := 8) (N := some 29) (v := ?_) (a' := ?_) #[true,true,true,true,true,true,true,true,true,true,true,false,false,false] rfl rfl (by kernel_rfl) (fun _ _ _ h => h) (Or.inl ⟨by rfl,?_⟩) ?_ ?_
    rotate_left
    ·intro w'
     go_simp
     with_reducible rfl
    rotate_left
    ·simp only [Act.put,List.setIfInBounds_toArray,List.set_cons_zero,List.set_cons_succ,i64_w,i32_w]
     rfl
    refine one_ (i := 11) (N := some 32) #[true,true,true,true,true,true,true,true,true,true,true,true,false,false] rfl rfl (by kernel_rfl) (by decide) (fun K hKK => ?_)
    refine goes_ Tryz.func34 (by kernel_rfl) rfl #[.slice A0_2 l0_2.length c0_2] (by rfl) rfl rfl (by (try simp only [List.map_toArray,List.map_cons,List.map_nil]);first | done | rfl) ?_
    refine (vw.calls A0_2 c0_2 l0_2 b2 w7 (Kd.C_below HR2.out (HB.out.trans (HQ3.out.mono HBL0.out))) HC2.out HB2A.out).mono ?_
    rintro e w8 ⟨rfl,hb8⟩
    refine ⟨_,rfl,?_⟩
    have HQ4 := qq.mk (HQ3.out.trans (hb8.mono HQ3S.out))
    clear hb8
    refine hKK.out _ _ (hK _ HQ4.out) (fun hHeld => ?_)
    clear hKK K
    refine norm_ (a' := ?_) ?_ ?_
    rotate_left
    ·show Act.put _ (some 32) _ = _
     simp only [Act.put,List.setIfInBounds_toArray,List.set_cons_zero,List.set_cons_succ,i64_w,i32_w]
     rfl
    refine pure_ (i := 12) (N := some 33) (v := ?_) (a' := ?_) #[true,true,true,true,true,true,true,true,true,true,true,true,true,false] rfl rfl (by kernel_rfl) (fun _ _ _ h => h) (Or.inl ⟨by rfl,?_⟩) ?_ ?_
    rotate_left
    ·intro w'
     go_simp
     with_reducible rfl
    rotate_left
    ·simp only [Act.put,List.setIfInBounds_toArray,List.set_cons_zero,List.set_cons_succ,i64_w,i32_w]
     rfl
    refine pure_ (i := 13) (N := some 2) (v := ?_) (a' := ?_) #[true,true,true,true,true,true,true,true,true,true,true,true,true,true] rfl rfl (by kernel_rfl) (fun _ _ _ h => h) (Or.inl ⟨by rfl,?_⟩) ?_ ?_
    rotate_left
    ·intro w'
     go_simp
     with_reducible rfl
    rotate_left
    ·simp only [Act.put,List.setIfInBounds_toArray,List.set_cons_zero,List.set_cons_succ,i64_w,i32_w]
     rfl
    refine done_ (by kernel_rfl) ?_
    go_wp2
    go_ret
    exact ⟨rfl,HB.out.trans (HQ4.out.mono HBL0.out)⟩
end Go.Proofs.YtnbbbjfjkhglhaaGreatDoor.Pr
namespace Go.Proofs.YtnbbbjfjkhglhaaGreatDoor.Pr
open Go.RowKit Go.Proofs.YtnbbbjfjkhglhaaGreatDoorW.PrintWords Go.Proofs.YtnbbbjfjkhglhaaGreatDoorW.PrintLast Go.Proofs.YtnbbbjfjkhglhaaGreatDoorW.PrintMore
attribute [local go_sem] max2_int min2_int max_two min_two max_three min_three max_four min_four
set_option linter.unusedVariables false
set_option linter.unusedSimpArgs false
def qkj.f (a0 : Int) : Option (Bool) := if a0 ≥ 48 then (some (decide (a0 ≤ 57))) else (some false)
set_option maxHeartbeats 8000000 in
set_option maxRecDepth 100000 in
theorem qkj.calls (a0 : Int) (r : Bool) (w : World) (h : qkj.f a0 = some r) :
  Calls Tryz.prog 70 #[.int .u8 a0] w fun e w' => e = .returned (.bool r) ∧ Drawn0 w w' := by
 have H : (if a0 ≥ 48 then (some (decide (a0 ≤ 57))) else (some false)) = some r := h
 clear h
 by_cases c2 : a0 ≥ 48
 ·rw [if_pos c2] at H
  have c2b0 : decide (48 ≤ a0) = true := decide_eq_true c2
  clear c2
  obtain rfl := Option.some.inj H
  go_enter Tryz.func70,Tryz.ntmps70
  go_wp2
  go_ret
  exact ⟨by first | rfl | (simp;done) | (simp [*];done),by repeat (first | exact Drawn0.refl _ | apply Drawn0.step)⟩
 ·rw [if_neg c2] at H
  have c2b0 : decide (48 ≤ a0) = false := decide_eq_false c2
  clear c2
  obtain rfl := Option.some.inj H
  go_enter Tryz.func70,Tryz.ntmps70
  go_wp2
  go_ret
  exact ⟨by first | rfl | (simp;done) | (simp [*];done),by repeat (first | exact Drawn0.refl _ | apply Drawn0.step)⟩
end Go.Proofs.YtnbbbjfjkhglhaaGreatDoor.Pr
namespace Go.Proofs.YtnbbbjfjkhglhaaGreatDoor.Pr
open Go.RowKit Go.Proofs.YtnbbbjfjkhglhaaGreatDoorW.PrintWords Go.Proofs.YtnbbbjfjkhglhaaGreatDoorW.PrintLast Go.Proofs.YtnbbbjfjkhglhaaGreatDoorW.PrintMore
attribute [local go_sem] max2_int min2_int max_two min_two max_three min_three max_four min_four
set_option linter.unusedVariables false
set_option linter.unusedSimpArgs false
def qkk.f (a0 : Int) : Option (Bool) := if a0 ≥ 97 then (if a0 ≤ 122 then (some true) else (if a0 ≥ 65 then (some (decide (a0 ≤ 90))) else (some false))) else (if a0 ≥ 65 then (some (decide (a0 ≤ 90))) else (some false))
set_option maxHeartbeats 8000000 in
set_option maxRecDepth 100000 in
theorem qkk.calls (a0 : Int) (r : Bool) (w : World) (h : qkk.f a0 = some r) :
  Calls Tryz.prog 71 #[.int .u8 a0] w fun e w' => e = .returned (.bool r) ∧ Drawn0 w w' := by
 have H : (if a0 ≥ 97 then (if a0 ≤ 122 then (some true) else (if a0 ≥ 65 then (some (decide (a0 ≤ 90))) else (some false))) else (if a0 ≥ 65 then (some (decide (a0 ≤ 90))) else (some false))) = some r := h
 clear h
 by_cases c2 : a0 ≥ 97
 ·rw [if_pos c2] at H
  have c2b0 : decide (97 ≤ a0) = true := decide_eq_true c2
  clear c2
  by_cases c3 : a0 ≤ 122
  ·rw [if_pos c3] at H
   have c3b0 : decide (a0 ≤ 122) = true := decide_eq_true c3
   clear c3
   obtain rfl := Option.some.inj H
   go_enter Tryz.func71,Tryz.ntmps71
   go_wp2
   go_ret
   exact ⟨by first | rfl | (simp;done) | (simp [*];done),by repeat (first | exact Drawn0.refl _ | apply Drawn0.step)⟩
  ·rw [if_neg c3] at H
   have c3b0 : decide (a0 ≤ 122) = false := decide_eq_false c3
   clear c3
   by_cases c4 : a0 ≥ 65
   ·rw [if_pos c4] at H
    have c4b0 : decide (65 ≤ a0) = true := decide_eq_true c4
    clear c4
    obtain rfl := Option.some.inj H
    go_enter Tryz.func71,Tryz.ntmps71
    go_wp2
    go_ret
    exact ⟨by first | rfl | (simp;done) | (simp [*];done),by repeat (first | exact Drawn0.refl _ | apply Drawn0.step)⟩
   ·rw [if_neg c4] at H
    have c4b0 : decide (65 ≤ a0) = false := decide_eq_false c4
    clear c4
    obtain rfl := Option.some.inj H
    go_enter Tryz.func71,Tryz.ntmps71
    go_wp2
    go_ret
    exact ⟨by first | rfl | (simp;done) | (simp [*];done),by repeat (first | exact Drawn0.refl _ | apply Drawn0.step)⟩
 ·rw [if_neg c2] at H
  have c2b0 : decide (97 ≤ a0) = false := decide_eq_false c2
  clear c2
  by_cases c5 : a0 ≥ 65
  ·rw [if_pos c5] at H
   have c5b0 : decide (65 ≤ a0) = true := decide_eq_true c5
   clear c5
   obtain rfl := Option.some.inj H
   go_enter Tryz.func71,Tryz.ntmps71
   go_wp2
   go_ret
   exact ⟨by first | rfl | (simp;done) | (simp [*];done),by repeat (first | exact Drawn0.refl _ | apply Drawn0.step)⟩
  ·rw [if_neg c5] at H
   have c5b0 : decide (65 ≤ a0) = false := decide_eq_false c5
   clear c5
   obtain rfl := Option.some.inj H
   go_enter Tryz.func71,Tryz.ntmps71
   go_wp2
   go_ret
   exact ⟨by first | rfl | (simp;done) | (simp [*];done),by repeat (first | exact Drawn0.refl _ | apply Drawn0.step)⟩
end Go.Proofs.YtnbbbjfjkhglhaaGreatDoor.Pr
namespace Go.Proofs.YtnbbbjfjkhglhaaGreatDoor.Pr
open Go.RowKit Go.Proofs.YtnbbbjfjkhglhaaGreatDoorW.PrintWords Go.Proofs.YtnbbbjfjkhglhaaGreatDoorW.PrintLast Go.Proofs.YtnbbbjfjkhglhaaGreatDoorW.PrintMore
attribute [local go_sem] max2_int min2_int max_two min_two max_three min_three max_four min_four
set_option linter.unusedVariables false
set_option linter.unusedSimpArgs false
mutual
def qjv.j0 : Nat → ByteArray → Bool → Option (Bool)
 | 0,_,_ => none
 | k + 1,x0,x16 => if x16 = true then (some false) else (qjv.l0 k x0 0)
def qjv.l0 : Nat → ByteArray → Int → Option (Bool)
 | 0,_,_ => none
 | k + 1,x0,x3 => if x3 < (x0.size : Int) then (if 0 ≤ x3 then ((qkk.f (bt x0 x3)).bind fun t102 => (if t102 = true then (qjv.l0 k x0 (wrap64 (x3 + 1))) else ((qkj.f (bt x0 x3)).bind fun t103 => (if t103 = true then (qjv.l0 k x0 (wrap64 (x3 + 1))) else (if (bt x0 x3) = 95 then (qjv.l0 k x0 (wrap64 (x3 + 1))) else (some false)))))) else (none)) else (some true)
end
def qjv.f (k : Nat) (a0 : ByteArray) : Option (Bool) := if (a0.size : Int) < 1 then (qjv.j0 k a0 true) else (if (a0.size : Int) > 30 then (qjv.j0 k a0 true) else (if 0 < (a0.size : Int) then ((qkj.f (bt a0 0)).bind fun t101 => (qjv.j0 k a0 t101)) else (none)))
set_option maxHeartbeats 8000000 in
set_option maxRecDepth 100000 in
theorem qjv.calls (k : Nat) (a0 : ByteArray) (r : Bool) (w : World) (h : qjv.f k a0 = some r) :
  Calls Tryz.prog 45 #[.string a0] w fun e w' => e = .returned (.bool r) ∧ Drawn0 w w' := by
 have H : (if (a0.size : Int) < 1 then (qjv.j0 k a0 true) else (if (a0.size : Int) > 30 then (qjv.j0 k a0 true) else (if 0 < (a0.size : Int) then ((qkj.f (bt a0 0)).bind fun t101 => (qjv.j0 k a0 t101)) else (none)))) = some r := h
 clear h
 have HC2 := qq.mk H
 clear H
 go_enter Tryz.func45,Tryz.ntmps45
 go_upto_region 1 with (fail)
 go_cut [16] (fun v16 wc => ∃ (kq : Nat) (x16_1 : Bool),v16 = .bool x16_1 ∧ qq (qjv.j0 kq a0 x16_1 = some r) ∧ qq (kq ≤ k) ∧ Drawn0 w wc)
 case first =>
  have H := HC2.out
  clear HC2
  by_cases c3 : (a0.size : Int) < 1
  ·rw [if_pos c3] at H
   have c3b0 : decide ((a0.size : Int) < 1) = true := decide_eq_true c3
   have c3b1 : decide (a0.size < 1) = true := decide_eq_true (by omega)
   clear c3
   (first | rw [c3b0] | (simp only [i64_w,i32_w];rw [c3b0]) | skip)
   have H' := qq.mk H
   clear H
   go_wp2
   go_meet
   case rel => exact ⟨_,(true),(by first | rfl | (simp;done) | (simp [*];done)),H',⟨by first | omega | exact Nat.le_refl _⟩,by repeat (first | exact Drawn0.refl _ | apply Drawn0.step)⟩
  ·rw [if_neg c3] at H
   have c3b0 : decide ((a0.size : Int) < 1) = false := decide_eq_false c3
   have c3b1 : decide (a0.size < 1) = false := decide_eq_false (by omega)
   clear c3
   (first | rw [c3b0] | (simp only [i64_w,i32_w];rw [c3b0]) | skip)
   by_cases c4 : (a0.size : Int) > 30
   ·rw [if_pos c4] at H
    have c4b0 : decide (30 < (a0.size : Int)) = true := decide_eq_true c4
    have c4b1 : decide (30 < a0.size) = true := decide_eq_true (by omega)
    clear c4
    have H' := qq.mk H
    clear H
    go_wp2
    go_meet
    case rel => exact ⟨_,(true),(by first | rfl | (simp;done) | (simp [*];done)),H',⟨by first | omega | exact Nat.le_refl _⟩,by repeat (first | exact Drawn0.refl _ | apply Drawn0.step)⟩
   ·rw [if_neg c4] at H
    have c4b0 : decide (30 < (a0.size : Int)) = false := decide_eq_false c4
    have c4b1 : decide (30 < a0.size) = false := decide_eq_false (by omega)
    clear c4
    by_cases c5 : 0 < (a0.size : Int)
    ·rw [if_pos c5] at H
     have c5b0 : decide (0 < (a0.size : Int)) = true := decide_eq_true c5
     have c5b1 : decide (0 < a0.size) = true := decide_eq_true (by omega)
     clear c5
     replace H := Option.bind_eq_some_iff.mp H
     obtain ⟨t101,A70,H⟩ := H
     replace H : (qjv.j0 k a0 t101) = some r := H
     have A7 := qq.mk A70
     clear A70
     have H' := qq.mk H
     clear H
     have p6 : 0 ≤ (0 : Int) := (by omega)
     have q6 : 0 < a0.size := (by have : (0 : Int) < (a0.size : Int) := of_decide_eq_true (by assumption);omega)
     have hx6 : ∀ h : 0 < a0.size,((a0[0]'h).toNat : Int) = bt a0 0 := bt_at a0 0
     clear p6
     have qi6 : (0 < (a0.size : Int)) = True := eq_true (of_decide_eq_true (by assumption))
     replace q6 := eq_true q6
     go_wp2_with (first | (go_at_call 70;(with_reducible refine (qkj.calls (bt a0 0) t101 _ A7.out).mono ?_);rintro e w' ⟨rfl,⟨nd,rfl⟩⟩))
     go_meet
     case rel => exact ⟨_,(t101),(by first | rfl | (simp;done) | (simp [*];done)),H',⟨by first | omega | exact Nat.le_refl _⟩,by repeat (first | exact Drawn0.refl _ | apply Drawn0.step)⟩
    ·rw [if_neg c5] at H
     exact absurd H (by simp)
 case rest =>
  clear HC2
  try clear p2
  try clear c3
  try clear c3b0
  try clear c3b1
  try clear c4
  try clear c4b0
  try clear c4b1
  try clear c5
  try clear c5b0
  try clear c5b1
  try clear p6
  try clear q6
  try clear hx6
  try clear qi6
  try clear p6
  try clear q6
  obtain ⟨kq,x16_1,rfl,HA,HJ1,⟨mc1,rfl⟩⟩ := hcut
  cases kq with
  | zero => exact absurd HA.out (by simp [qjv.j0])
  | succ kj1 =>
   have H := HA.out
   clear HA
   simp only [qjv.j0] at H
   by_cases c8 : x16_1 = true
   ·subst c8
    have H1 : (some false) = some r := by rw [if_pos rfl] at H;exact H
    clear H
    have H := H1
    clear H1
    obtain rfl := Option.some.inj H
    go_wp2
    go_ret
    exact ⟨by first | rfl | (simp;done) | (simp [*];done),by repeat (first | exact Drawn0.refl _ | apply Drawn0.step)⟩
   ·replace c8 := Bool.eq_false_iff.mpr c8
    subst c8
    have H1 : (qjv.l0 kj1 a0 0) = some r := by rw [if_neg (show ¬ (false = true) by decide)] at H;exact H
    clear H
    have H := H1
    clear H1
    have H' := qq.mk H
    clear H
    go_wp2
    go_loopg [3] kj1 (fun kq v3 w' => ∃ (x3_2 : Int),v3 = .int .i64 x3_2 ∧ qq (qjv.l0 kq a0 x3_2 = some r) ∧ qq (kq ≤ kj1) ∧ Drawn0 w w')
    case atStart => exact ⟨(0),(by first | rfl | (simp;done) | (simp [*];done)),H',⟨Nat.le_refl _⟩,by repeat (first | exact Drawn0.refl _ | apply Drawn0.step)⟩
    case round =>
     clear H'
     try clear c1
     try clear p2
     try clear c3
     try clear c3b0
     try clear c3b1
     try clear c4
     try clear c4b0
     try clear c4b1
     try clear c5
     try clear c5b0
     try clear c5b1
     try clear p6
     try clear q6
     try clear hx6
     try clear qi6
     try clear c8
     try clear p2
     try clear p6
     try clear q6
     obtain ⟨x3_2,rfl,HA,HK2,⟨m2,rfl⟩⟩ := hrel
     cases gk with
     | zero => exact absurd HA.out (by simp [qjv.l0])
     | succ k2 =>
      have H := HA.out
      clear HA
      simp only [qjv.l0] at H
      by_cases c9 : x3_2 < (a0.size : Int)
      ·rw [if_pos c9] at H
       have c9b0 : decide (x3_2 < (a0.size : Int)) = true := decide_eq_true c9
       clear c9
       by_cases c10 : 0 ≤ x3_2
       ·rw [if_pos c10] at H
        have c10b0 : decide (0 ≤ x3_2) = true := decide_eq_true c10
        clear c10
        replace H := Option.bind_eq_some_iff.mp H
        obtain ⟨t102,A120,H⟩ := H
        replace H : (if t102 = true then (qjv.l0 k2 a0 (wrap64 (x3_2 + 1))) else ((qkj.f (bt a0 x3_2)).bind fun t103 => (if t103 = true then (qjv.l0 k2 a0 (wrap64 (x3_2 + 1))) else (if (bt a0 x3_2) = 95 then (qjv.l0 k2 a0 (wrap64 (x3_2 + 1))) else (some false))))) = some r := H
        have A12 := qq.mk A120
        clear A120
        by_cases c13 : t102 = true
        ·subst c13
         have H1 : (qjv.l0 k2 a0 (wrap64 (x3_2 + 1))) = some r := by rw [if_pos rfl] at H;exact H
         clear H
         have H := H1
         clear H1
         have H' := qq.mk H
         clear H
         have p11 : 0 ≤ (x3_2 : Int) := of_decide_eq_true (by assumption)
         have q11 : x3_2 < (a0.size : Int) := of_decide_eq_true (by assumption)
         have hx11 := bt_at a0 x3_2
         replace p11 := eq_true p11
         replace q11 := eq_true q11
         go_wp2_with (first | ((with_reducible refine jv (f := 71) rfl ?_);refine goesL_ (some 26) rfl rfl Tryz.func71 (by kernel_rfl) rfl #[.int .u8 (bt a0 x3_2)] rfl (by (try simp only [List.map_toArray,List.map_cons,List.map_nil]);first | done | rfl | (simp only [List.length_drop,List.length_take];rfl)) ?_;(with_reducible refine (qkk.calls (bt a0 x3_2) true _ A12.out).mono ?_);rintro e w' ⟨rfl,⟨nd,rfl⟩⟩;refine ⟨_,rfl,?_⟩))
         go_roundg k2
         case measure => have := HJ1.out;have := HK2.out;omega
         case rel => exact ⟨(wrap64 (x3_2 + 1)),(by first | rfl | (simp;done) | (simp [*];done)),H',⟨by have := HJ1.out;have := HK2.out;omega⟩,by repeat (first | exact Drawn0.refl _ | apply Drawn0.step)⟩
        ·replace c13 := Bool.eq_false_iff.mpr c13
         subst c13
         have H1 : ((qkj.f (bt a0 x3_2)).bind fun t103 => (if t103 = true then (qjv.l0 k2 a0 (wrap64 (x3_2 + 1))) else (if (bt a0 x3_2) = 95 then (qjv.l0 k2 a0 (wrap64 (x3_2 + 1))) else (some false)))) = some r := by rw [if_neg (show ¬ (false = true) by decide)] at H;exact H
         clear H
         have H := H1
         clear H1
         replace H := Option.bind_eq_some_iff.mp H
         obtain ⟨t103,A150,H⟩ := H
         replace H : (if t103 = true then (qjv.l0 k2 a0 (wrap64 (x3_2 + 1))) else (if (bt a0 x3_2) = 95 then (qjv.l0 k2 a0 (wrap64 (x3_2 + 1))) else (some false))) = some r := H
         have A15 := qq.mk A150
         clear A150
         by_cases c16 : t103 = true
         ·subst c16
          have H1 : (qjv.l0 k2 a0 (wrap64 (x3_2 + 1))) = some r := by rw [if_pos rfl] at H;exact H
          clear H
          have H := H1
          clear H1
          have H' := qq.mk H
          clear H
          have p11 : 0 ≤ (x3_2 : Int) := of_decide_eq_true (by assumption)
          have q11 : x3_2 < (a0.size : Int) := of_decide_eq_true (by assumption)
          have hx11 := bt_at a0 x3_2
          replace p11 := eq_true p11
          replace q11 := eq_true q11
          go_wp2_with (first | ((with_reducible refine jv (f := 71) rfl ?_);refine goesL_ (some 26) rfl rfl Tryz.func71 (by kernel_rfl) rfl #[.int .u8 (bt a0 x3_2)] rfl (by (try simp only [List.map_toArray,List.map_cons,List.map_nil]);first | done | rfl | (simp only [List.length_drop,List.length_take];rfl)) ?_;(with_reducible refine (qkk.calls (bt a0 x3_2) false _ A12.out).mono ?_);rintro e w' ⟨rfl,⟨nd,rfl⟩⟩;refine ⟨_,rfl,?_⟩;have p14 : 0 ≤ (x3_2 : Int) := of_decide_eq_true (by assumption);have q14 : x3_2 < (a0.size : Int) := of_decide_eq_true (by assumption);have hx14 := bt_at a0 x3_2;replace p14 := eq_true p14;replace q14 := eq_true q14) | (go_at_call 70;(with_reducible refine (qkj.calls (bt a0 x3_2) true _ A15.out).mono ?_);rintro e w' ⟨rfl,⟨nd,rfl⟩⟩))
          go_roundg k2
          case measure => have := HJ1.out;have := HK2.out;omega
          case rel => exact ⟨(wrap64 (x3_2 + 1)),(by first | rfl | (simp;done) | (simp [*];done)),H',⟨by have := HJ1.out;have := HK2.out;omega⟩,by repeat (first | exact Drawn0.refl _ | apply Drawn0.step)⟩
         ·replace c16 := Bool.eq_false_iff.mpr c16
          subst c16
          have H1 : (if (bt a0 x3_2) = 95 then (qjv.l0 k2 a0 (wrap64 (x3_2 + 1))) else (some false)) = some r := by rw [if_neg (show ¬ (false = true) by decide)] at H;exact H
          clear H
          have H := H1
          clear H1
          by_cases c18 : (bt a0 x3_2) = 95
          ·rw [if_pos c18] at H
           have c18b0 : ((bt a0 x3_2) == 95) = true := beq_iff_eq.mpr c18
           have c18b1 : ((bt a0 x3_2) != 95) = false := bne_eq_false_iff_eq.mpr c18
           clear c18
           have H' := qq.mk H
           clear H
           have p11 : 0 ≤ (x3_2 : Int) := of_decide_eq_true (by assumption)
           have q11 : x3_2 < (a0.size : Int) := of_decide_eq_true (by assumption)
           have hx11 := bt_at a0 x3_2
           replace p11 := eq_true p11
           replace q11 := eq_true q11
           go_wp2_with (first | ((with_reducible refine jv (f := 71) rfl ?_);refine goesL_ (some 26) rfl rfl Tryz.func71 (by kernel_rfl) rfl #[.int .u8 (bt a0 x3_2)] rfl (by (try simp only [List.map_toArray,List.map_cons,List.map_nil]);first | done | rfl | (simp only [List.length_drop,List.length_take];rfl)) ?_;(with_reducible refine (qkk.calls (bt a0 x3_2) false _ A12.out).mono ?_);rintro e w' ⟨rfl,⟨nd,rfl⟩⟩;refine ⟨_,rfl,?_⟩;have p14 : 0 ≤ (x3_2 : Int) := of_decide_eq_true (by assumption);have q14 : x3_2 < (a0.size : Int) := of_decide_eq_true (by assumption);have hx14 := bt_at a0 x3_2;replace p14 := eq_true p14;replace q14 := eq_true q14) | (go_at_call 70;(with_reducible refine (qkj.calls (bt a0 x3_2) false _ A15.out).mono ?_);rintro e w' ⟨rfl,⟨nd,rfl⟩⟩;have p17 : 0 ≤ (x3_2 : Int) := of_decide_eq_true (by assumption);have q17 : x3_2 < (a0.size : Int) := of_decide_eq_true (by assumption);have hx17 := bt_at a0 x3_2;replace p17 := eq_true p17;replace q17 := eq_true q17))
           go_roundg k2
           case measure => have := HJ1.out;have := HK2.out;omega
           case rel => exact ⟨(wrap64 (x3_2 + 1)),(by first | rfl | (simp;done) | (simp [*];done)),H',⟨by have := HJ1.out;have := HK2.out;omega⟩,by repeat (first | exact Drawn0.refl _ | apply Drawn0.step)⟩
          ·rw [if_neg c18] at H
           have c18b0 : ((bt a0 x3_2) == 95) = false := beq_eq_false_iff_ne.mpr c18
           have c18b1 : ((bt a0 x3_2) != 95) = true := bne_iff_ne.mpr c18
           obtain rfl := Option.some.inj H
           have p11 : 0 ≤ (x3_2 : Int) := of_decide_eq_true (by assumption)
           have q11 : x3_2 < (a0.size : Int) := of_decide_eq_true (by assumption)
           have hx11 := bt_at a0 x3_2
           replace p11 := eq_true p11
           replace q11 := eq_true q11
           go_wp2_with (first | ((with_reducible refine jv (f := 71) rfl ?_);refine goesL_ (some 26) rfl rfl Tryz.func71 (by kernel_rfl) rfl #[.int .u8 (bt a0 x3_2)] rfl (by (try simp only [List.map_toArray,List.map_cons,List.map_nil]);first | done | rfl | (simp only [List.length_drop,List.length_take];rfl)) ?_;(with_reducible refine (qkk.calls (bt a0 x3_2) false _ A12.out).mono ?_);rintro e w' ⟨rfl,⟨nd,rfl⟩⟩;refine ⟨_,rfl,?_⟩;have p14 : 0 ≤ (x3_2 : Int) := of_decide_eq_true (by assumption);have q14 : x3_2 < (a0.size : Int) := of_decide_eq_true (by assumption);have hx14 := bt_at a0 x3_2;replace p14 := eq_true p14;replace q14 := eq_true q14) | (go_at_call 70;(with_reducible refine (qkj.calls (bt a0 x3_2) false _ A15.out).mono ?_);rintro e w' ⟨rfl,⟨nd,rfl⟩⟩;have p17 : 0 ≤ (x3_2 : Int) := of_decide_eq_true (by assumption);have q17 : x3_2 < (a0.size : Int) := of_decide_eq_true (by assumption);have hx17 := bt_at a0 x3_2;replace p17 := eq_true p17;replace q17 := eq_true q17))
           go_ret
           exact ⟨by first | rfl | (simp;done) | (simp [*];done),by repeat (first | exact Drawn0.refl _ | apply Drawn0.step)⟩
       ·rw [if_neg c10] at H
        exact absurd H (by simp)
      ·rw [if_neg c9] at H
       have c9b0 : decide (x3_2 < (a0.size : Int)) = false := decide_eq_false c9
       clear c9
       obtain rfl := Option.some.inj H
       go_wp2
       go_ret
       exact ⟨by first | rfl | (simp;done) | (simp [*];done),by repeat (first | exact Drawn0.refl _ | apply Drawn0.step)⟩
end Go.Proofs.YtnbbbjfjkhglhaaGreatDoor.Pr
namespace Go.Proofs.YtnbbbjfjkhglhaaGreatDoor.Pr
open Go.RowKit Go.Proofs.YtnbbbjfjkhglhaaGreatDoorW.PrintWords Go.Proofs.YtnbbbjfjkhglhaaGreatDoorW.PrintLast Go.Proofs.YtnbbbjfjkhglhaaGreatDoorW.PrintMore
attribute [local go_sem] max2_int min2_int max_two min_two max_three min_three max_four min_four
set_option linter.unusedVariables false
set_option linter.unusedSimpArgs false
def qkw.l0 : Nat → Int → Int → Int → Option (Int)
 | 0,_,_,_ => none
 | k + 1,x0,x3,x4 => if x4 < x0 then (qkw.l0 k x0 (wrap64 (x3 * 2)) (wrap64 (x4 + 1))) else (some x3)
def qkw.f (k : Nat) (a0 : Int) : Option (Int) := qkw.l0 k a0 1 0
set_option maxHeartbeats 8000000 in
set_option maxRecDepth 100000 in
theorem qkw.calls (k : Nat) (a0 : Int) (r : Int) (w : World) (h : qkw.f k a0 = some r) :
  Calls Tryz.prog 73 #[.int .i64 a0] w fun e w' => e = .returned (.int .i64 r) ∧ Drawn0 w w' := by
 have H : (qkw.l0 k a0 1 0) = some r := h
 clear h
 have H' := qq.mk H
 clear H
 go_enter Tryz.func73,Tryz.ntmps73
 go_wp2
 go_loopg [3,4] k (fun kq v3 v4 w' => ∃ (x3_1 : Int) (x4_1 : Int),v3 = .int .i64 x3_1 ∧ v4 = .int .i64 x4_1 ∧ qq (qkw.l0 kq a0 x3_1 x4_1 = some r) ∧ qq (kq ≤ k) ∧ Drawn0 w w')
 case atStart => exact ⟨(1),(0),(by first | rfl | (simp;done) | (simp [*];done)),(by first | rfl | (simp;done) | (simp [*];done)),H',⟨Nat.le_refl _⟩,by repeat (first | exact Drawn0.refl _ | apply Drawn0.step)⟩
 case round =>
  clear H'
  obtain ⟨x3_1,x4_1,rfl,rfl,HA,HK1,⟨m1,rfl⟩⟩ := hrel
  cases gk with
  | zero => exact absurd HA.out (by simp [qkw.l0])
  | succ k1 =>
   have H := HA.out
   clear HA
   simp only [qkw.l0] at H
   by_cases c2 : x4_1 < a0
   ·rw [if_pos c2] at H
    have c2b0 : decide (x4_1 < a0) = true := decide_eq_true c2
    clear c2
    have H' := qq.mk H
    clear H
    go_wp2
    go_roundg k1
    case measure => have := HK1.out;omega
    case rel => exact ⟨(wrap64 (x3_1 * 2)),(wrap64 (x4_1 + 1)),(by first | rfl | (simp;done) | (simp [*];done)),(by first | rfl | (simp;done) | (simp [*];done)),H',⟨by have := HK1.out;omega⟩,by repeat (first | exact Drawn0.refl _ | apply Drawn0.step)⟩
   ·rw [if_neg c2] at H
    have c2b0 : decide (x4_1 < a0) = false := decide_eq_false c2
    clear c2
    obtain rfl := Option.some.inj H
    go_wp2
    go_ret
    exact ⟨by first | rfl | (simp;done) | (simp [*];done),by repeat (first | exact Drawn0.refl _ | apply Drawn0.step)⟩
end Go.Proofs.YtnbbbjfjkhglhaaGreatDoor.Pr
namespace Go.Proofs.YtnbbbjfjkhglhaaGreatDoor.Pr
open Go.RowKit Go.Proofs.YtnbbbjfjkhglhaaGreatDoorW.PrintWords Go.Proofs.YtnbbbjfjkhglhaaGreatDoorW.PrintLast Go.Proofs.YtnbbbjfjkhglhaaGreatDoorW.PrintMore
attribute [local go_sem] max2_int min2_int max_two min_two max_three min_three max_four min_four
set_option linter.unusedVariables false
set_option linter.unusedSimpArgs false
def qkz.f (k : Nat) (a0_0 : Int) (a0_1 : Int) (a0_2 : ByteArray) (a0_3 : ByteArray) : Option (Int × Int) := (qkw.f k (wrap64 (32 - (Int.tmod a0_1 64)))).bind fun t102 => (some (wrap64 (Int.tdiv a0_1 64),t102))
set_option maxHeartbeats 8000000 in
set_option maxRecDepth 100000 in
theorem qkz.calls (k : Nat) (a0_0 : Int) (a0_1 : Int) (a0_2 : ByteArray) (a0_3 : ByteArray) (r1 : Int) (r2 : Int) (w : World) (h : qkz.f k a0_0 a0_1 a0_2 a0_3 = some (r1,r2)) :
  Calls Tryz.prog 50 #[.agg #[.int .i64 a0_0,.int .i64 a0_1,.string a0_2,.string a0_3]] w fun e w' => e = .returned (.tuple #[.int .i64 r1,.int .i64 r2]) ∧ Below w.heap.size w w' := by
 have hu28 := Tryz.underlying28
 have HB := qq.mk (Below.refl w.heap.size w)
 have H : ((qkw.f k (wrap64 (32 - (Int.tmod a0_1 64)))).bind fun t102 => (some (wrap64 (Int.tdiv a0_1 64),t102))) = some (r1,r2) := h
 clear h
 replace H := Option.bind_eq_some_iff.mp H
 obtain ⟨t102,A20,H⟩ := H
 replace H : (some (wrap64 (Int.tdiv a0_1 64),t102)) = some (r1,r2) := H
 have A2 := qq.mk A20
 clear A20
 simp only [Option.some.injEq,Prod.mk.injEq] at H
 obtain ⟨rfl,rfl⟩ := H
 go_enter Tryz.func50,Tryz.ntmps50
 go_wp2_with (first | ((with_reducible refine gate_dst (N := 1) rfl ?_);refine box_event ?hg (N := 1) ?hd (cs := #[.int .i64 a0_0,.int .i64 a0_1,.string a0_2,.string a0_3]) (t := 28) ?hr ?_;(case hd => rfl);(case hg => rfl);(case hr => first | (go_simp;done) | (go_simp;rfl));intro gb101 hg w3 hbox hb;have n0_ := qq.mk (zv (by repeat (first | (with_reducible first | exact HB.out | apply qj | apply qz | apply qk) | exact HB.out)) hb);have n1_ := qq.mk (hbox);have n2_ := qq.mk ((by rw [hg];exact (zw (by repeat (first | (with_reducible first | exact HB.out | apply qj | apply qz | apply qk) | exact HB.out))) : w.heap.size ≤ gb101));have n3_ := qq.mk ((by rw [hg];exact (zw (by repeat (first | (with_reducible first | exact HB.out | apply qj | apply qz | apply qk) | exact HB.out))) : w.heap.size ≤ gb101));clear HB;have HB := n0_;have BK101 := n1_;have GW101 := n2_;have GE101 := n3_;clear n0_ n1_ n2_ n3_;clear hb hbox hg;have hcz4_0 : w3.cell? ⟨gb101,0,none⟩ = some (.int .i64 a0_0) := (qw BK101.out 0).trans rfl;have hcz4_1 : w3.cell? ⟨gb101,1,none⟩ = some (.int .i64 a0_1) := (qw BK101.out 1).trans rfl;have hcz4_2 : w3.cell? ⟨gb101,2,none⟩ = some (.string a0_2) := (qw BK101.out 2).trans rfl;have hcz4_3 : w3.cell? ⟨gb101,3,none⟩ = some (.string a0_3) := (qw BK101.out 3).trans rfl;have hfz4_0 := qv BK101.out 0;have hfz4_1 := qv BK101.out 1;have hfz4_2 := qv BK101.out 2;have hfz4_3 := qv BK101.out 3) | (go_at_call 73;(with_reducible refine (qkw.calls k (wrap64 (32 - (Int.tmod a0_1 64))) t102 _ A2.out).mono ?_);rintro e w' ⟨rfl,⟨nd,rfl⟩⟩;(try first | exact ⟨rfl,_,World.drewN_drewN _ _ _⟩ | exact ⟨rfl,_,Eq.trans (World.drewN_drewN _ _ _) (congrArg (World.drewN _) (Nat.add_assoc _ _ _))⟩)))
 repeat (go_quiet (first | ((with_reducible refine gate_dst (N := 1) rfl ?_);refine box_event ?hg (N := 1) ?hd (cs := #[.int .i64 a0_0,.int .i64 a0_1,.string a0_2,.string a0_3]) (t := 28) ?hr ?_;(case hd => rfl);(case hg => rfl);(case hr => first | (go_simp;done) | (go_simp;rfl));intro gb101 hg w3 hbox hb;have n0_ := qq.mk (zv (by repeat (first | (with_reducible first | exact HB.out | apply qj | apply qz | apply qk) | exact HB.out)) hb);have n1_ := qq.mk (hbox);have n2_ := qq.mk ((by rw [hg];exact (zw (by repeat (first | (with_reducible first | exact HB.out | apply qj | apply qz | apply qk) | exact HB.out))) : w.heap.size ≤ gb101));have n3_ := qq.mk ((by rw [hg];exact (zw (by repeat (first | (with_reducible first | exact HB.out | apply qj | apply qz | apply qk) | exact HB.out))) : w.heap.size ≤ gb101));clear HB;have HB := n0_;have BK101 := n1_;have GW101 := n2_;have GE101 := n3_;clear n0_ n1_ n2_ n3_;clear hb hbox hg;have hcz4_0 : w3.cell? ⟨gb101,0,none⟩ = some (.int .i64 a0_0) := (qw BK101.out 0).trans rfl;have hcz4_1 : w3.cell? ⟨gb101,1,none⟩ = some (.int .i64 a0_1) := (qw BK101.out 1).trans rfl;have hcz4_2 : w3.cell? ⟨gb101,2,none⟩ = some (.string a0_2) := (qw BK101.out 2).trans rfl;have hcz4_3 : w3.cell? ⟨gb101,3,none⟩ = some (.string a0_3) := (qw BK101.out 3).trans rfl;have hfz4_0 := qv BK101.out 0;have hfz4_1 := qv BK101.out 1;have hfz4_2 := qv BK101.out 2;have hfz4_3 := qv BK101.out 3) | (go_at_call 73;(with_reducible refine (qkw.calls k (wrap64 (32 - (Int.tmod a0_1 64))) t102 _ A2.out).mono ?_);rintro e w' ⟨rfl,⟨nd,rfl⟩⟩;(try first | exact ⟨rfl,_,World.drewN_drewN _ _ _⟩ | exact ⟨rfl,_,Eq.trans (World.drewN_drewN _ _ _) (congrArg (World.drewN _) (Nat.add_assoc _ _ _))⟩)));try go_wp2_with (first | ((with_reducible refine gate_dst (N := 1) rfl ?_);refine box_event ?hg (N := 1) ?hd (cs := #[.int .i64 a0_0,.int .i64 a0_1,.string a0_2,.string a0_3]) (t := 28) ?hr ?_;(case hd => rfl);(case hg => rfl);(case hr => first | (go_simp;done) | (go_simp;rfl));intro gb101 hg w3 hbox hb;have n0_ := qq.mk (zv (by repeat (first | (with_reducible first | exact HB.out | apply qj | apply qz | apply qk) | exact HB.out)) hb);have n1_ := qq.mk (hbox);have n2_ := qq.mk ((by rw [hg];exact (zw (by repeat (first | (with_reducible first | exact HB.out | apply qj | apply qz | apply qk) | exact HB.out))) : w.heap.size ≤ gb101));have n3_ := qq.mk ((by rw [hg];exact (zw (by repeat (first | (with_reducible first | exact HB.out | apply qj | apply qz | apply qk) | exact HB.out))) : w.heap.size ≤ gb101));clear HB;have HB := n0_;have BK101 := n1_;have GW101 := n2_;have GE101 := n3_;clear n0_ n1_ n2_ n3_;clear hb hbox hg;have hcz4_0 : w3.cell? ⟨gb101,0,none⟩ = some (.int .i64 a0_0) := (qw BK101.out 0).trans rfl;have hcz4_1 : w3.cell? ⟨gb101,1,none⟩ = some (.int .i64 a0_1) := (qw BK101.out 1).trans rfl;have hcz4_2 : w3.cell? ⟨gb101,2,none⟩ = some (.string a0_2) := (qw BK101.out 2).trans rfl;have hcz4_3 : w3.cell? ⟨gb101,3,none⟩ = some (.string a0_3) := (qw BK101.out 3).trans rfl;have hfz4_0 := qv BK101.out 0;have hfz4_1 := qv BK101.out 1;have hfz4_2 := qv BK101.out 2;have hfz4_3 := qv BK101.out 3) | (go_at_call 73;(with_reducible refine (qkw.calls k (wrap64 (32 - (Int.tmod a0_1 64))) t102 _ A2.out).mono ?_);rintro e w' ⟨rfl,⟨nd,rfl⟩⟩;(try first | exact ⟨rfl,_,World.drewN_drewN _ _ _⟩ | exact ⟨rfl,_,Eq.trans (World.drewN_drewN _ _ _) (congrArg (World.drewN _) (Nat.add_assoc _ _ _))⟩))))
 go_ret2
 exact ⟨by first | rfl | (simp [*,jk,jj] <;> rfl),by repeat (first | (with_reducible first | exact HB.out | apply qj | apply qz | apply qk | refine qx ?_ GE101.out) | exact HB.out)⟩
end Go.Proofs.YtnbbbjfjkhglhaaGreatDoor.Pr
namespace Go.Proofs.YtnbbbjfjkhglhaaGreatDoor.Pr
open Go.RowKit Go.Proofs.YtnbbbjfjkhglhaaGreatDoorW.PrintWords Go.Proofs.YtnbbbjfjkhglhaaGreatDoorW.PrintLast Go.Proofs.YtnbbbjfjkhglhaaGreatDoorW.PrintMore
attribute [local go_sem] max2_int min2_int max_two min_two max_three min_three max_four min_four
set_option linter.unusedVariables false
set_option linter.unusedSimpArgs false
def qkx.l0 : Nat → ByteArray → Int → Option (Bool)
 | 0,_,_ => none
 | k + 1,x0,x3 => if x3 < (x0.size : Int) then (if 0 ≤ x3 then (if (bt x0 x3) < 32 then (some false) else (if (bt x0 x3) > 126 then (some false) else (qkx.l0 k x0 (wrap64 (x3 + 1))))) else (none)) else (some true)
def qkx.f (k : Nat) (a0 : ByteArray) : Option (Bool) := qkx.l0 k a0 0
set_option maxHeartbeats 8000000 in
set_option maxRecDepth 100000 in
theorem qkx.calls (k : Nat) (a0 : ByteArray) (r : Bool) (w : World) (h : qkx.f k a0 = some r) :
  Calls Tryz.prog 72 #[.string a0] w fun e w' => e = .returned (.bool r) ∧ Drawn0 w w' := by
 have H : (qkx.l0 k a0 0) = some r := h
 clear h
 have H' := qq.mk H
 clear H
 go_enter Tryz.func72,Tryz.ntmps72
 go_wp2
 go_loopg [3] k (fun kq v3 w' => ∃ (x3_1 : Int),v3 = .int .i64 x3_1 ∧ qq (qkx.l0 kq a0 x3_1 = some r) ∧ qq (kq ≤ k) ∧ Drawn0 w w')
 case atStart => exact ⟨(0),(by first | rfl | (simp;done) | (simp [*];done)),H',⟨Nat.le_refl _⟩,by repeat (first | exact Drawn0.refl _ | apply Drawn0.step)⟩
 case round =>
  clear H'
  obtain ⟨x3_1,rfl,HA,HK1,⟨m1,rfl⟩⟩ := hrel
  cases gk with
  | zero => exact absurd HA.out (by simp [qkx.l0])
  | succ k1 =>
   have H := HA.out
   clear HA
   simp only [qkx.l0] at H
   by_cases c2 : x3_1 < (a0.size : Int)
   ·rw [if_pos c2] at H
    have c2b0 : decide (x3_1 < (a0.size : Int)) = true := decide_eq_true c2
    clear c2
    by_cases c3 : 0 ≤ x3_1
    ·rw [if_pos c3] at H
     have c3b0 : decide (0 ≤ x3_1) = true := decide_eq_true c3
     clear c3
     by_cases c5 : (bt a0 x3_1) < 32
     ·rw [if_pos c5] at H
      have c5b0 : decide ((bt a0 x3_1) < 32) = true := decide_eq_true c5
      clear c5
      obtain rfl := Option.some.inj H
      have p4 : 0 ≤ (x3_1 : Int) := of_decide_eq_true (by assumption)
      have q4 : x3_1 < (a0.size : Int) := of_decide_eq_true (by assumption)
      have hx4 := bt_at a0 x3_1
      replace p4 := eq_true p4
      replace q4 := eq_true q4
      go_wp2
      go_ret
      exact ⟨by first | rfl | (simp;done) | (simp [*];done),by repeat (first | exact Drawn0.refl _ | apply Drawn0.step)⟩
     ·rw [if_neg c5] at H
      have c5b0 : decide ((bt a0 x3_1) < 32) = false := decide_eq_false c5
      clear c5
      by_cases c7 : (bt a0 x3_1) > 126
      ·rw [if_pos c7] at H
       have c7b0 : decide (126 < (bt a0 x3_1)) = true := decide_eq_true c7
       clear c7
       obtain rfl := Option.some.inj H
       have p4 : 0 ≤ (x3_1 : Int) := of_decide_eq_true (by assumption)
       have q4 : x3_1 < (a0.size : Int) := of_decide_eq_true (by assumption)
       have hx4 := bt_at a0 x3_1
       replace p4 := eq_true p4
       replace q4 := eq_true q4
       have p6 : 0 ≤ (x3_1 : Int) := of_decide_eq_true (by assumption)
       have q6 : x3_1 < (a0.size : Int) := of_decide_eq_true (by assumption)
       have hx6 := bt_at a0 x3_1
       replace p6 := eq_true p6
       replace q6 := eq_true q6
       go_wp2
       go_ret
       exact ⟨by first | rfl | (simp;done) | (simp [*];done),by repeat (first | exact Drawn0.refl _ | apply Drawn0.step)⟩
      ·rw [if_neg c7] at H
       have c7b0 : decide (126 < (bt a0 x3_1)) = false := decide_eq_false c7
       clear c7
       have H' := qq.mk H
       clear H
       have p4 : 0 ≤ (x3_1 : Int) := of_decide_eq_true (by assumption)
       have q4 : x3_1 < (a0.size : Int) := of_decide_eq_true (by assumption)
       have hx4 := bt_at a0 x3_1
       replace p4 := eq_true p4
       replace q4 := eq_true q4
       have p6 : 0 ≤ (x3_1 : Int) := of_decide_eq_true (by assumption)
       have q6 : x3_1 < (a0.size : Int) := of_decide_eq_true (by assumption)
       have hx6 := bt_at a0 x3_1
       replace p6 := eq_true p6
       replace q6 := eq_true q6
       go_wp2
       go_roundg k1
       case measure => have := HK1.out;omega
       case rel => exact ⟨(wrap64 (x3_1 + 1)),(by first | rfl | (simp;done) | (simp [*];done)),H',⟨by have := HK1.out;omega⟩,by repeat (first | exact Drawn0.refl _ | apply Drawn0.step)⟩
    ·rw [if_neg c3] at H
     exact absurd H (by simp)
   ·rw [if_neg c2] at H
    have c2b0 : decide (x3_1 < (a0.size : Int)) = false := decide_eq_false c2
    clear c2
    obtain rfl := Option.some.inj H
    go_wp2
    go_ret
    exact ⟨by first | rfl | (simp;done) | (simp [*];done),by repeat (first | exact Drawn0.refl _ | apply Drawn0.step)⟩
end Go.Proofs.YtnbbbjfjkhglhaaGreatDoor.Pr
