/- Printed texts, walks and plain facts that the law FnExactTermText leans on, joined. -/
import Derived.Test.YtnbbbjfjkhglhaaGreatDoorFullFnExactTermTextB
import Derived.Deep.RegionHeld3
import Derived.Deep.QuietTactic
import Derived.BigQuiet
import Derived.Laws.Cover1
namespace Go.Proofs.YtnbbbjfjkhglhaaGreatDoor.Pr
open Go.RowKit Go.Proofs.YtnbbbjfjkhglhaaGreatDoorW.PrintWords Go.Proofs.YtnbbbjfjkhglhaaGreatDoorW.PrintLast Go.Proofs.YtnbbbjfjkhglhaaGreatDoorW.PrintMore
attribute [local go_sem] max2_int min2_int max_two min_two max_three min_three max_four min_four
set_option linter.unusedVariables false
set_option linter.unusedSimpArgs false
def kk.l0 : Nat → Int → ByteArray → Int → Int → Int → ByteArray → ByteArray → Option (ByteArray)
 | 0,_,_,_,_,_,_,_ => none
 | k + 1,x6,x7,x8,x102000,x102001,x102002,x102003 => if x8 ≥ 0 then (if 0 ≤ x8 then ((strconv_Itoa.f (Go.bits .and .i64 (shr .i64 x6 x8) 255)).bind fun t111 => (if t111.size + 1 ≤ 9223372036854775807 then (if x7.size + (t111 ++ (⟨#[46]⟩ : ByteArray)).size ≤ 9223372036854775807 then (kk.l0 k x6 (x7 ++ (t111 ++ (⟨#[46]⟩ : ByteArray))) (wrap64 (x8 - 8)) x102000 x102001 x102002 x102003) else (none)) else (none))) else (none)) else (if 0 ≤ (wrap64 ((x7.size : Int) - 1)) then (if (wrap64 ((x7.size : Int) - 1)) ≤ (x7.size : Int) then (if (x7.extract 0 ((wrap64 ((x7.size : Int) - 1)) : Int).toNat).size + 1 ≤ 9223372036854775807 then ((strconv_Itoa.f (Int.tmod x102001 64)).bind fun t112 => (if ((x7.extract 0 ((wrap64 ((x7.size : Int) - 1)) : Int).toNat) ++ (⟨#[47]⟩ : ByteArray)).size + t112.size ≤ 9223372036854775807 then (some (((x7.extract 0 ((wrap64 ((x7.size : Int) - 1)) : Int).toNat) ++ (⟨#[47]⟩ : ByteArray)) ++ t112)) else (none))) else (none)) else (none)) else (none))
def kk.f (k : Nat) (a0_0 : Int) (a0_1 : Int) (a0_2 : ByteArray) (a0_3 : ByteArray) : Option (ByteArray) := (kv.f k a0_0 a0_1 a0_2 a0_3).bind fun t102 => (if t102 = true then (if a0_0 = 1 then ((qqx.f (a0_1 == 1)).bind fun t103 => (some t103)) else (if a0_0 = 2 then ((strconv_Itoa.f a0_1).bind fun t104 => (some t104)) else (if a0_0 = 3 then ((vx.f a0_2).bind fun t105 => (some t105)) else (if a0_0 = 4 then (if a0_3.size + 2 ≤ 9223372036854775807 then ((vx.f a0_2).bind fun t106 => (if (a0_3 ++ (⟨#[58,58]⟩ : ByteArray)).size + t106.size ≤ 9223372036854775807 then (some ((a0_3 ++ (⟨#[58,58]⟩ : ByteArray)) ++ t106)) else (none))) else (none)) else (if a0_0 = 5 then (if a0_1 < 0 then ((qzz.f (IntKind.u64.wrap ((Int.tmod (IntKind.u64.wrap (-(IntKind.u64.wrap (a0_1)))) 10000) + 10000)) 10).bind fun t107 => ((qzz.f (IntKind.u64.wrap (Int.tdiv (IntKind.u64.wrap (-(IntKind.u64.wrap (a0_1)))) 10000)) 10).bind fun t108 => (if 1 + t108.size ≤ 9223372036854775807 then (if ((⟨#[45]⟩ : ByteArray) ++ t108).size + 1 ≤ 9223372036854775807 then (if 1 ≤ (t107.size : Int) then (if (((⟨#[45]⟩ : ByteArray) ++ t108) ++ (⟨#[46]⟩ : ByteArray)).size + (t107.extract 1 t107.size).size ≤ 9223372036854775807 then (some ((((⟨#[45]⟩ : ByteArray) ++ t108) ++ (⟨#[46]⟩ : ByteArray)) ++ (t107.extract 1 t107.size))) else (none)) else (none)) else (none)) else (none)))) else ((qzz.f (IntKind.u64.wrap ((Int.tmod (IntKind.u64.wrap (a0_1)) 10000) + 10000)) 10).bind fun t109 => ((qzz.f (IntKind.u64.wrap (Int.tdiv (IntKind.u64.wrap (a0_1)) 10000)) 10).bind fun t110 => (if 0 + t110.size ≤ 9223372036854775807 then (if ((⟨#[]⟩ : ByteArray) ++ t110).size + 1 ≤ 9223372036854775807 then (if 1 ≤ (t109.size : Int) then (if (((⟨#[]⟩ : ByteArray) ++ t110) ++ (⟨#[46]⟩ : ByteArray)).size + (t109.extract 1 t109.size).size ≤ 9223372036854775807 then (some ((((⟨#[]⟩ : ByteArray) ++ t110) ++ (⟨#[46]⟩ : ByteArray)) ++ (t109.extract 1 t109.size))) else (none)) else (none)) else (none)) else (none))))) else (if a0_0 = 6 then (kk.l0 k (wrap64 (Int.tdiv a0_1 64)) (⟨#[]⟩ : ByteArray) 24 a0_0 a0_1 a0_2 a0_3) else ((strconv_Itoa.f a0_1).bind fun t113 => (if 1 + t113.size ≤ 9223372036854775807 then (some ((⟨#[64]⟩ : ByteArray) ++ t113)) else (none))))))))) else (some (⟨#[]⟩ : ByteArray)))
def kk.T11 : Bool × List (List Nat × List Nat) := (true,[([],[]),([0],[0]),([1],[1]),([],[]),([3],[3]),([4],[4]),([2,5],[2,5]),([6,5,0,1,2,3,4,5,6],[6])])
def kk.B11 : List Nat := [0,1,3,0,8,24,63,127]
theorem kk.tab11 : rtab .any (opsOf Tryz.f25 11) = kk.T11 := by kernel_rfl
theorem kk.bits11 : waitsOk kk.T11.2 kk.B11 = true := by kernel_rfl
def kk.T17 : Bool × List (List Nat × List Nat) := (true,[([],[]),([],[]),([1],[1]),([2],[2]),([0,3],[0,3]),([4],[4]),([],[]),([6],[6]),([5,7],[5,7]),([8,3,0,1,2,3,4,5,6,7,8],[8])])
def kk.B17 : List Nat := [0,0,2,6,15,31,0,64,255,511]
theorem kk.tab17 : rtab .any (opsOf Tryz.f25 17) = kk.T17 := by kernel_rfl
theorem kk.bits17 : waitsOk kk.T17.2 kk.B17 = true := by kernel_rfl
def kk.T25 : Bool × List (List Nat × List Nat) := (true,[([],[]),([],[]),([1],[1]),([2],[2]),([0,3],[0,3]),([4],[4]),([],[]),([6],[6]),([7],[7]),([8],[8]),([5,9],[5,9]),([10,9,0,1,2,3,4,5,6,7,8,9,10],[10])])
def kk.B25 : List Nat := [0,0,2,6,15,31,0,64,192,448,1023,2047]
theorem kk.tab25 : rtab .any (opsOf Tryz.f25 25) = kk.T25 := by kernel_rfl
theorem kk.bits25 : waitsOk kk.T25.2 kk.B25 = true := by kernel_rfl
set_option maxHeartbeats 8000000 in
set_option maxRecDepth 100000 in
theorem kk.calls (k : Nat) (a0_0 : Int) (a0_1 : Int) (a0_2 : ByteArray) (a0_3 : ByteArray) (r : ByteArray) (w : World) (htab : TabW w) (h : kk.f k a0_0 a0_1 a0_2 a0_3 = some r) :
  Calls Tryz.prog 25 #[.agg #[.int .i64 a0_0,.int .i64 a0_1,.string a0_2,.string a0_3]] w fun e w' => e = .returned (.string r) ∧ Below w.heap.size w w' := by
 have HTAB := qq.mk htab
 clear htab
 have hu28 := Tryz.underlying28
 have HB := qq.mk (Below.refl w.heap.size w)
 have H : ((kv.f k a0_0 a0_1 a0_2 a0_3).bind fun t102 => (if t102 = true then (if a0_0 = 1 then ((qqx.f (a0_1 == 1)).bind fun t103 => (some t103)) else (if a0_0 = 2 then ((strconv_Itoa.f a0_1).bind fun t104 => (some t104)) else (if a0_0 = 3 then ((vx.f a0_2).bind fun t105 => (some t105)) else (if a0_0 = 4 then (if a0_3.size + 2 ≤ 9223372036854775807 then ((vx.f a0_2).bind fun t106 => (if (a0_3 ++ (⟨#[58,58]⟩ : ByteArray)).size + t106.size ≤ 9223372036854775807 then (some ((a0_3 ++ (⟨#[58,58]⟩ : ByteArray)) ++ t106)) else (none))) else (none)) else (if a0_0 = 5 then (if a0_1 < 0 then ((qzz.f (IntKind.u64.wrap ((Int.tmod (IntKind.u64.wrap (-(IntKind.u64.wrap (a0_1)))) 10000) + 10000)) 10).bind fun t107 => ((qzz.f (IntKind.u64.wrap (Int.tdiv (IntKind.u64.wrap (-(IntKind.u64.wrap (a0_1)))) 10000)) 10).bind fun t108 => (if 1 + t108.size ≤ 9223372036854775807 then (if ((⟨#[45]⟩ : ByteArray) ++ t108).size + 1 ≤ 9223372036854775807 then (if 1 ≤ (t107.size : Int) then (if (((⟨#[45]⟩ : ByteArray) ++ t108) ++ (⟨#[46]⟩ : ByteArray)).size + (t107.extract 1 t107.size).size ≤ 9223372036854775807 then (some ((((⟨#[45]⟩ : ByteArray) ++ t108) ++ (⟨#[46]⟩ : ByteArray)) ++ (t107.extract 1 t107.size))) else (none)) else (none)) else (none)) else (none)))) else ((qzz.f (IntKind.u64.wrap ((Int.tmod (IntKind.u64.wrap (a0_1)) 10000) + 10000)) 10).bind fun t109 => ((qzz.f (IntKind.u64.wrap (Int.tdiv (IntKind.u64.wrap (a0_1)) 10000)) 10).bind fun t110 => (if 0 + t110.size ≤ 9223372036854775807 then (if ((⟨#[]⟩ : ByteArray) ++ t110).size + 1 ≤ 9223372036854775807 then (if 1 ≤ (t109.size : Int) then (if (((⟨#[]⟩ : ByteArray) ++ t110) ++ (⟨#[46]⟩ : ByteArray)).size + (t109.extract 1 t109.size).size ≤ 9223372036854775807 then (some ((((⟨#[]⟩ : ByteArray) ++ t110) ++ (⟨#[46]⟩ : ByteArray)) ++ (t109.extract 1 t109.size))) else (none)) else (none)) else (none)) else (none))))) else (if a0_0 = 6 then (kk.l0 k (wrap64 (Int.tdiv a0_1 64)) (⟨#[]⟩ : ByteArray) 24 a0_0 a0_1 a0_2 a0_3) else ((strconv_Itoa.f a0_1).bind fun t113 => (if 1 + t113.size ≤ 9223372036854775807 then (some ((⟨#[64]⟩ : ByteArray) ++ t113)) else (none))))))))) else (some (⟨#[]⟩ : ByteArray)))) = some r := h
 clear h
 replace H := Option.bind_eq_some_iff.mp H
 obtain ⟨t102,A20,H⟩ := H
 replace H : (if t102 = true then (if a0_0 = 1 then ((qqx.f (a0_1 == 1)).bind fun t103 => (some t103)) else (if a0_0 = 2 then ((strconv_Itoa.f a0_1).bind fun t104 => (some t104)) else (if a0_0 = 3 then ((vx.f a0_2).bind fun t105 => (some t105)) else (if a0_0 = 4 then (if a0_3.size + 2 ≤ 9223372036854775807 then ((vx.f a0_2).bind fun t106 => (if (a0_3 ++ (⟨#[58,58]⟩ : ByteArray)).size + t106.size ≤ 9223372036854775807 then (some ((a0_3 ++ (⟨#[58,58]⟩ : ByteArray)) ++ t106)) else (none))) else (none)) else (if a0_0 = 5 then (if a0_1 < 0 then ((qzz.f (IntKind.u64.wrap ((Int.tmod (IntKind.u64.wrap (-(IntKind.u64.wrap (a0_1)))) 10000) + 10000)) 10).bind fun t107 => ((qzz.f (IntKind.u64.wrap (Int.tdiv (IntKind.u64.wrap (-(IntKind.u64.wrap (a0_1)))) 10000)) 10).bind fun t108 => (if 1 + t108.size ≤ 9223372036854775807 then (if ((⟨#[45]⟩ : ByteArray) ++ t108).size + 1 ≤ 9223372036854775807 then (if 1 ≤ (t107.size : Int) then (if (((⟨#[45]⟩ : ByteArray) ++ t108) ++ (⟨#[46]⟩ : ByteArray)).size + (t107.extract 1 t107.size).size ≤ 9223372036854775807 then (some ((((⟨#[45]⟩ : ByteArray) ++ t108) ++ (⟨#[46]⟩ : ByteArray)) ++ (t107.extract 1 t107.size))) else (none)) else (none)) else (none)) else (none)))) else ((qzz.f (IntKind.u64.wrap ((Int.tmod (IntKind.u64.wrap (a0_1)) 10000) + 10000)) 10).bind fun t109 => ((qzz.f (IntKind.u64.wrap (Int.tdiv (IntKind.u64.wrap (a0_1)) 10000)) 10).bind fun t110 => (if 0 + t110.size ≤ 9223372036854775807 then (if ((⟨#[]⟩ : ByteArray) ++ t110).size + 1 ≤ 9223372036854775807 then (if 1 ≤ (t109.size : Int) then (if (((⟨#[]⟩ : ByteArray) ++ t110) ++ (⟨#[46]⟩ : ByteArray)).size + (t109.extract 1 t109.size).size ≤ 9223372036854775807 then (some ((((⟨#[]⟩ : ByteArray) ++ t110) ++ (⟨#[46]⟩ : ByteArray)) ++ (t109.extract 1 t109.size))) else (none)) else (none)) else (none)) else (none))))) else (if a0_0 = 6 then (kk.l0 k (wrap64 (Int.tdiv a0_1 64)) (⟨#[]⟩ : ByteArray) 24 a0_0 a0_1 a0_2 a0_3) else ((strconv_Itoa.f a0_1).bind fun t113 => (if 1 + t113.size ≤ 9223372036854775807 then (some ((⟨#[64]⟩ : ByteArray) ++ t113)) else (none))))))))) else (some (⟨#[]⟩ : ByteArray))) = some r := H
 have A2 := qq.mk A20
 clear A20
 by_cases c3 : t102 = true
 ·subst c3
  have H1 : (if a0_0 = 1 then ((qqx.f (a0_1 == 1)).bind fun t103 => (some t103)) else (if a0_0 = 2 then ((strconv_Itoa.f a0_1).bind fun t104 => (some t104)) else (if a0_0 = 3 then ((vx.f a0_2).bind fun t105 => (some t105)) else (if a0_0 = 4 then (if a0_3.size + 2 ≤ 9223372036854775807 then ((vx.f a0_2).bind fun t106 => (if (a0_3 ++ (⟨#[58,58]⟩ : ByteArray)).size + t106.size ≤ 9223372036854775807 then (some ((a0_3 ++ (⟨#[58,58]⟩ : ByteArray)) ++ t106)) else (none))) else (none)) else (if a0_0 = 5 then (if a0_1 < 0 then ((qzz.f (IntKind.u64.wrap ((Int.tmod (IntKind.u64.wrap (-(IntKind.u64.wrap (a0_1)))) 10000) + 10000)) 10).bind fun t107 => ((qzz.f (IntKind.u64.wrap (Int.tdiv (IntKind.u64.wrap (-(IntKind.u64.wrap (a0_1)))) 10000)) 10).bind fun t108 => (if 1 + t108.size ≤ 9223372036854775807 then (if ((⟨#[45]⟩ : ByteArray) ++ t108).size + 1 ≤ 9223372036854775807 then (if 1 ≤ (t107.size : Int) then (if (((⟨#[45]⟩ : ByteArray) ++ t108) ++ (⟨#[46]⟩ : ByteArray)).size + (t107.extract 1 t107.size).size ≤ 9223372036854775807 then (some ((((⟨#[45]⟩ : ByteArray) ++ t108) ++ (⟨#[46]⟩ : ByteArray)) ++ (t107.extract 1 t107.size))) else (none)) else (none)) else (none)) else (none)))) else ((qzz.f (IntKind.u64.wrap ((Int.tmod (IntKind.u64.wrap (a0_1)) 10000) + 10000)) 10).bind fun t109 => ((qzz.f (IntKind.u64.wrap (Int.tdiv (IntKind.u64.wrap (a0_1)) 10000)) 10).bind fun t110 => (if 0 + t110.size ≤ 9223372036854775807 then (if ((⟨#[]⟩ : ByteArray) ++ t110).size + 1 ≤ 9223372036854775807 then (if 1 ≤ (t109.size : Int) then (if (((⟨#[]⟩ : ByteArray) ++ t110) ++ (⟨#[46]⟩ : ByteArray)).size + (t109.extract 1 t109.size).size ≤ 9223372036854775807 then (some ((((⟨#[]⟩ : ByteArray) ++ t110) ++ (⟨#[46]⟩ : ByteArray)) ++ (t109.extract 1 t109.size))) else (none)) else (none)) else (none)) else (none))))) else (if a0_0 = 6 then (kk.l0 k (wrap64 (Int.tdiv a0_1 64)) (⟨#[]⟩ : ByteArray) 24 a0_0 a0_1 a0_2 a0_3) else ((strconv_Itoa.f a0_1).bind fun t113 => (if 1 + t113.size ≤ 9223372036854775807 then (some ((⟨#[64]⟩ : ByteArray) ++ t113)) else (none))))))))) = some r := by rw [if_pos rfl] at H;exact H
  clear H
  have H := H1
  clear H1
  by_cases c4 : a0_0 = 1
  ·rw [if_pos c4] at H
   have c4b0 : (a0_0 == 1) = true := beq_iff_eq.mpr c4
   have c4b1 : (a0_0 != 1) = false := bne_eq_false_iff_eq.mpr c4
   clear c4
   replace H := Option.bind_eq_some_iff.mp H
   obtain ⟨t103,A50,H⟩ := H
   replace H : (some t103) = some r := H
   have A5 := qq.mk A50
   clear A50
   obtain rfl := Option.some.inj H
   go_enter Tryz.func25,Tryz.ntmps25
   go_wp2_with (first | ((with_reducible refine gate_dst (N := 1) rfl ?_);refine box_event ?hg (N := 1) ?hd (cs := #[.int .i64 a0_0,.int .i64 a0_1,.string a0_2,.string a0_3]) (t := 28) ?hr ?_;(case hd => rfl);(case hg => rfl);(case hr => first | (go_simp;done) | (go_simp;rfl));intro gb101 hg w6 hbox hb;have n0_ := qq.mk (zv (by repeat (first | (with_reducible first | exact HB.out | apply qj | apply qz | apply qk) | exact HB.out)) hb);have n1_ := qq.mk (hbox);have n2_ := qq.mk ((by rw [hg];exact (zw (by repeat (first | (with_reducible first | exact HB.out | apply qj | apply qz | apply qk) | exact HB.out))) : w.heap.size ≤ gb101));have n3_ := qq.mk ((by rw [hg];exact (zw (by repeat (first | (with_reducible first | exact HB.out | apply qj | apply qz | apply qk) | exact HB.out))) : w.heap.size ≤ gb101));clear HB;have HB := n0_;have BK101 := n1_;have GW101 := n2_;have GE101 := n3_;clear n0_ n1_ n2_ n3_;clear hb hbox hg;have hcz7_0 : w6.cell? ⟨gb101,0,none⟩ = some (.int .i64 a0_0) := (qw BK101.out 0).trans rfl;have hcz7_1 : w6.cell? ⟨gb101,1,none⟩ = some (.int .i64 a0_1) := (qw BK101.out 1).trans rfl;have hcz7_2 : w6.cell? ⟨gb101,2,none⟩ = some (.string a0_2) := (qw BK101.out 2).trans rfl;have hcz7_3 : w6.cell? ⟨gb101,3,none⟩ = some (.string a0_3) := (qw BK101.out 3).trans rfl;have hfz7_0 := qv BK101.out 0;have hfz7_1 := qv BK101.out 1;have hfz7_2 := qv BK101.out 2;have hfz7_3 := qv BK101.out 3) | ((with_reducible refine jv (f := 52) rfl ?_);refine goesL_ (some 10) rfl rfl Tryz.func52 (by kernel_rfl) rfl #[.agg #[.int .i64 a0_0,.int .i64 a0_1,.string a0_2,.string a0_3]] rfl (by (try simp only [List.map_toArray,List.map_cons,List.map_nil]);first | done | rfl | (simp only [List.length_drop,List.length_take];rfl)) ?_;(with_reducible refine (kv.calls k a0_0 a0_1 a0_2 a0_3 true _ A2.out).mono ?_);rintro e w8 ⟨rfl,hb⟩;refine ⟨_,rfl,?_⟩;have n0_ := qq.mk (jx (g := gb101) (o := .cells #[.int .i64 a0_0,.int .i64 a0_1,.string a0_2,.string a0_3] 28 (0,0)) (by (with_reducible repeat (first | refine zz ?_ _ | refine zj ?_ | refine zq ?_ _));exact BK101.out) hb);have n1_ := qq.mk (zv (by repeat (first | (with_reducible first | exact HB.out | apply qj | apply qz | apply qk | refine qx ?_ GE101.out) | exact HB.out)) hb);clear BK101;clear HB;have BK101 := n0_;have HB := n1_;clear n0_ n1_;(try clear hb);(try clear hb2);(try clear hk);(try clear hi);have hcz9_0 : w8.cell? ⟨gb101,0,none⟩ = some (.int .i64 a0_0) := (qw BK101.out 0).trans rfl;have hcz9_1 : w8.cell? ⟨gb101,1,none⟩ = some (.int .i64 a0_1) := (qw BK101.out 1).trans rfl;have hcz9_2 : w8.cell? ⟨gb101,2,none⟩ = some (.string a0_2) := (qw BK101.out 2).trans rfl;have hcz9_3 : w8.cell? ⟨gb101,3,none⟩ = some (.string a0_3) := (qw BK101.out 3).trans rfl;have hfz9_0 := qv BK101.out 0;have hfz9_1 := qv BK101.out 1;have hfz9_2 := qv BK101.out 2;have hfz9_3 := qv BK101.out 3) | ((with_reducible refine jv (f := 54) rfl ?_);refine goesL_ (some 19) rfl rfl Tryz.func54 (by kernel_rfl) rfl #[.bool (a0_1 == 1)] rfl (by (try simp only [List.map_toArray,List.map_cons,List.map_nil]);first | done | rfl | (simp only [List.length_drop,List.length_take];rfl)) ?_;(with_reducible refine (qqx.calls (a0_1 == 1) t103 _ A5.out).mono ?_);rintro e w' ⟨rfl,⟨nd,rfl⟩⟩;refine ⟨_,rfl,?_⟩))
   go_ret
   exact ⟨by first | rfl | (simp [*,jk,jj] <;> rfl),by repeat (first | (with_reducible first | exact HB.out | apply qj | apply qz | apply qk | refine qx ?_ GE101.out) | exact HB.out)⟩
  ·rw [if_neg c4] at H
   have c4b0 : (a0_0 == 1) = false := beq_eq_false_iff_ne.mpr c4
   have c4b1 : (a0_0 != 1) = true := bne_iff_ne.mpr c4
   by_cases c10 : a0_0 = 2
   ·rw [if_pos c10] at H
    have c10b0 : (a0_0 == 2) = true := beq_iff_eq.mpr c10
    have c10b1 : (a0_0 != 2) = false := bne_eq_false_iff_eq.mpr c10
    clear c10
    replace H := Option.bind_eq_some_iff.mp H
    obtain ⟨t104,A110,H⟩ := H
    replace H : (some t104) = some r := H
    have A11 := qq.mk A110
    clear A110
    obtain rfl := Option.some.inj H
    go_enter Tryz.func25,Tryz.ntmps25
    go_wp2_with (first | ((with_reducible refine gate_dst (N := 1) rfl ?_);refine box_event ?hg (N := 1) ?hd (cs := #[.int .i64 a0_0,.int .i64 a0_1,.string a0_2,.string a0_3]) (t := 28) ?hr ?_;(case hd => rfl);(case hg => rfl);(case hr => first | (go_simp;done) | (go_simp;rfl));intro gb101 hg w12 hbox hb;have n0_ := qq.mk (zv (by repeat (first | (with_reducible first | exact HB.out | apply qj | apply qz | apply qk) | exact HB.out)) hb);have n1_ := qq.mk (hbox);have n2_ := qq.mk ((by rw [hg];exact (zw (by repeat (first | (with_reducible first | exact HB.out | apply qj | apply qz | apply qk) | exact HB.out))) : w.heap.size ≤ gb101));have n3_ := qq.mk ((by rw [hg];exact (zw (by repeat (first | (with_reducible first | exact HB.out | apply qj | apply qz | apply qk) | exact HB.out))) : w.heap.size ≤ gb101));clear HB;have HB := n0_;have BK101 := n1_;have GW101 := n2_;have GE101 := n3_;clear n0_ n1_ n2_ n3_;clear hb hbox hg;have hcz13_0 : w12.cell? ⟨gb101,0,none⟩ = some (.int .i64 a0_0) := (qw BK101.out 0).trans rfl;have hcz13_1 : w12.cell? ⟨gb101,1,none⟩ = some (.int .i64 a0_1) := (qw BK101.out 1).trans rfl;have hcz13_2 : w12.cell? ⟨gb101,2,none⟩ = some (.string a0_2) := (qw BK101.out 2).trans rfl;have hcz13_3 : w12.cell? ⟨gb101,3,none⟩ = some (.string a0_3) := (qw BK101.out 3).trans rfl;have hfz13_0 := qv BK101.out 0;have hfz13_1 := qv BK101.out 1;have hfz13_2 := qv BK101.out 2;have hfz13_3 := qv BK101.out 3) | ((with_reducible refine jv (f := 52) rfl ?_);refine goesL_ (some 10) rfl rfl Tryz.func52 (by kernel_rfl) rfl #[.agg #[.int .i64 a0_0,.int .i64 a0_1,.string a0_2,.string a0_3]] rfl (by (try simp only [List.map_toArray,List.map_cons,List.map_nil]);first | done | rfl | (simp only [List.length_drop,List.length_take];rfl)) ?_;(with_reducible refine (kv.calls k a0_0 a0_1 a0_2 a0_3 true _ A2.out).mono ?_);rintro e w14 ⟨rfl,hb⟩;refine ⟨_,rfl,?_⟩;have n0_ := qq.mk (jx (g := gb101) (o := .cells #[.int .i64 a0_0,.int .i64 a0_1,.string a0_2,.string a0_3] 28 (0,0)) (by (with_reducible repeat (first | refine zz ?_ _ | refine zj ?_ | refine zq ?_ _));exact BK101.out) hb);have n1_ := qq.mk (zv (by repeat (first | (with_reducible first | exact HB.out | apply qj | apply qz | apply qk | refine qx ?_ GE101.out) | exact HB.out)) hb);clear BK101;clear HB;have BK101 := n0_;have HB := n1_;clear n0_ n1_;(try clear hb);(try clear hb2);(try clear hk);(try clear hi);have hcz15_0 : w14.cell? ⟨gb101,0,none⟩ = some (.int .i64 a0_0) := (qw BK101.out 0).trans rfl;have hcz15_1 : w14.cell? ⟨gb101,1,none⟩ = some (.int .i64 a0_1) := (qw BK101.out 1).trans rfl;have hcz15_2 : w14.cell? ⟨gb101,2,none⟩ = some (.string a0_2) := (qw BK101.out 2).trans rfl;have hcz15_3 : w14.cell? ⟨gb101,3,none⟩ = some (.string a0_3) := (qw BK101.out 3).trans rfl;have hfz15_0 := qv BK101.out 0;have hfz15_1 := qv BK101.out 1;have hfz15_2 := qv BK101.out 2;have hfz15_3 := qv BK101.out 3) | ((with_reducible refine jv (f := 55) rfl ?_);refine goesL_ (some 24) rfl rfl Tryz.func55 (by kernel_rfl) rfl #[.int .i64 a0_1] rfl (by (try simp only [List.map_toArray,List.map_cons,List.map_nil]);first | done | rfl | (simp only [List.length_drop,List.length_take];rfl)) ?_;(with_reducible refine (strconv_Itoa.calls a0_1 t104 _ ?tabw A11.out).mono ?_);(case tabw => repeat (first | exact HTAB.out | exact TabW_below HTAB.out HB.out | (with_reducible refine TabW_drewN ?_ _) | (with_reducible refine TabW_drew ?_) | (with_reducible refine TabW_alloc ?_ _)));rintro e w16 ⟨rfl,hb⟩;refine ⟨_,rfl,?_⟩;have n0_ := qq.mk (jx (g := gb101) (o := .cells #[.int .i64 a0_0,.int .i64 a0_1,.string a0_2,.string a0_3] 28 (0,0)) (by (with_reducible repeat (first | refine zz ?_ _ | refine zj ?_ | refine zq ?_ _));exact BK101.out) hb);have n1_ := qq.mk (zv (by repeat (first | (with_reducible first | exact HB.out | apply qj | apply qz | apply qk | refine qx ?_ GE101.out) | exact HB.out)) hb);clear BK101;clear HB;have BK101 := n0_;have HB := n1_;clear n0_ n1_;(try clear hb);(try clear hb2);(try clear hk);(try clear hi)))
    go_ret
    exact ⟨by first | rfl | (simp [*,jk,jj] <;> rfl),by repeat (first | (with_reducible first | exact HB.out | apply qj | apply qz | apply qk | refine qx ?_ GE101.out) | exact HB.out)⟩
   ·rw [if_neg c10] at H
    have c10b0 : (a0_0 == 2) = false := beq_eq_false_iff_ne.mpr c10
    have c10b1 : (a0_0 != 2) = true := bne_iff_ne.mpr c10
    by_cases c17 : a0_0 = 3
    ·rw [if_pos c17] at H
     have c17b0 : (a0_0 == 3) = true := beq_iff_eq.mpr c17
     have c17b1 : (a0_0 != 3) = false := bne_eq_false_iff_eq.mpr c17
     clear c17
     replace H := Option.bind_eq_some_iff.mp H
     obtain ⟨t105,A180,H⟩ := H
     replace H : (some t105) = some r := H
     have A18 := qq.mk A180
     clear A180
     obtain rfl := Option.some.inj H
     go_enter Tryz.func25,Tryz.ntmps25
     go_wp2_with (first | ((with_reducible refine gate_dst (N := 1) rfl ?_);refine box_event ?hg (N := 1) ?hd (cs := #[.int .i64 a0_0,.int .i64 a0_1,.string a0_2,.string a0_3]) (t := 28) ?hr ?_;(case hd => rfl);(case hg => rfl);(case hr => first | (go_simp;done) | (go_simp;rfl));intro gb101 hg w19 hbox hb;have n0_ := qq.mk (zv (by repeat (first | (with_reducible first | exact HB.out | apply qj | apply qz | apply qk) | exact HB.out)) hb);have n1_ := qq.mk (hbox);have n2_ := qq.mk ((by rw [hg];exact (zw (by repeat (first | (with_reducible first | exact HB.out | apply qj | apply qz | apply qk) | exact HB.out))) : w.heap.size ≤ gb101));have n3_ := qq.mk ((by rw [hg];exact (zw (by repeat (first | (with_reducible first | exact HB.out | apply qj | apply qz | apply qk) | exact HB.out))) : w.heap.size ≤ gb101));clear HB;have HB := n0_;have BK101 := n1_;have GW101 := n2_;have GE101 := n3_;clear n0_ n1_ n2_ n3_;clear hb hbox hg;have hcz20_0 : w19.cell? ⟨gb101,0,none⟩ = some (.int .i64 a0_0) := (qw BK101.out 0).trans rfl;have hcz20_1 : w19.cell? ⟨gb101,1,none⟩ = some (.int .i64 a0_1) := (qw BK101.out 1).trans rfl;have hcz20_2 : w19.cell? ⟨gb101,2,none⟩ = some (.string a0_2) := (qw BK101.out 2).trans rfl;have hcz20_3 : w19.cell? ⟨gb101,3,none⟩ = some (.string a0_3) := (qw BK101.out 3).trans rfl;have hfz20_0 := qv BK101.out 0;have hfz20_1 := qv BK101.out 1;have hfz20_2 := qv BK101.out 2;have hfz20_3 := qv BK101.out 3) | ((with_reducible refine jv (f := 52) rfl ?_);refine goesL_ (some 10) rfl rfl Tryz.func52 (by kernel_rfl) rfl #[.agg #[.int .i64 a0_0,.int .i64 a0_1,.string a0_2,.string a0_3]] rfl (by (try simp only [List.map_toArray,List.map_cons,List.map_nil]);first | done | rfl | (simp only [List.length_drop,List.length_take];rfl)) ?_;(with_reducible refine (kv.calls k a0_0 a0_1 a0_2 a0_3 true _ A2.out).mono ?_);rintro e w21 ⟨rfl,hb⟩;refine ⟨_,rfl,?_⟩;have n0_ := qq.mk (jx (g := gb101) (o := .cells #[.int .i64 a0_0,.int .i64 a0_1,.string a0_2,.string a0_3] 28 (0,0)) (by (with_reducible repeat (first | refine zz ?_ _ | refine zj ?_ | refine zq ?_ _));exact BK101.out) hb);have n1_ := qq.mk (zv (by repeat (first | (with_reducible first | exact HB.out | apply qj | apply qz | apply qk | refine qx ?_ GE101.out) | exact HB.out)) hb);clear BK101;clear HB;have BK101 := n0_;have HB := n1_;clear n0_ n1_;(try clear hb);(try clear hb2);(try clear hk);(try clear hi);have hcz22_0 : w21.cell? ⟨gb101,0,none⟩ = some (.int .i64 a0_0) := (qw BK101.out 0).trans rfl;have hcz22_1 : w21.cell? ⟨gb101,1,none⟩ = some (.int .i64 a0_1) := (qw BK101.out 1).trans rfl;have hcz22_2 : w21.cell? ⟨gb101,2,none⟩ = some (.string a0_2) := (qw BK101.out 2).trans rfl;have hcz22_3 : w21.cell? ⟨gb101,3,none⟩ = some (.string a0_3) := (qw BK101.out 3).trans rfl;have hfz22_0 := qv BK101.out 0;have hfz22_1 := qv BK101.out 1;have hfz22_2 := qv BK101.out 2;have hfz22_3 := qv BK101.out 3) | ((with_reducible refine jv (f := 56) rfl ?_);refine goesL_ (some 29) rfl rfl Tryz.func56 (by kernel_rfl) rfl #[.string a0_2] rfl (by (try simp only [List.map_toArray,List.map_cons,List.map_nil]);first | done | rfl | (simp only [List.length_drop,List.length_take];rfl)) ?_;(with_reducible refine (vx.calls a0_2 t105 _ A18.out).mono ?_);rintro e w23 ⟨rfl,hb⟩;refine ⟨_,rfl,?_⟩;have n0_ := qq.mk (jx (g := gb101) (o := .cells #[.int .i64 a0_0,.int .i64 a0_1,.string a0_2,.string a0_3] 28 (0,0)) (by (with_reducible repeat (first | refine zz ?_ _ | refine zj ?_ | refine zq ?_ _));exact BK101.out) hb);have n1_ := qq.mk (zv (by repeat (first | (with_reducible first | exact HB.out | apply qj | apply qz | apply qk | refine qx ?_ GE101.out) | exact HB.out)) hb);clear BK101;clear HB;have BK101 := n0_;have HB := n1_;clear n0_ n1_;(try clear hb);(try clear hb2);(try clear hk);(try clear hi)))
     go_ret
     exact ⟨by first | rfl | (simp [*,jk,jj] <;> rfl),by repeat (first | (with_reducible first | exact HB.out | apply qj | apply qz | apply qk | refine qx ?_ GE101.out) | exact HB.out)⟩
    ·rw [if_neg c17] at H
     have c17b0 : (a0_0 == 3) = false := beq_eq_false_iff_ne.mpr c17
     have c17b1 : (a0_0 != 3) = true := bne_iff_ne.mpr c17
     by_cases c24 : a0_0 = 4
     ·rw [if_pos c24] at H
      have c24b0 : (a0_0 == 4) = true := beq_iff_eq.mpr c24
      have c24b1 : (a0_0 != 4) = false := bne_eq_false_iff_eq.mpr c24
      clear c24
      by_cases c25 : a0_3.size + 2 ≤ 9223372036854775807
      ·rw [if_pos c25] at H
       have c25b0 := eq_true c25
       have c25b1 : decide (a0_3.size + 2 ≤ 9223372036854775807) = true := decide_eq_true c25
       try have c25b2 : (9223372036854775807 < a0_3.size + 2) = False := eq_false (Nat.not_lt.2 c25)
       replace H := Option.bind_eq_some_iff.mp H
       obtain ⟨t106,A260,H⟩ := H
       replace H : (if (a0_3 ++ (⟨#[58,58]⟩ : ByteArray)).size + t106.size ≤ 9223372036854775807 then (some ((a0_3 ++ (⟨#[58,58]⟩ : ByteArray)) ++ t106)) else (none)) = some r := H
       have A26 := qq.mk A260
       clear A260
       by_cases c27 : (a0_3 ++ (⟨#[58,58]⟩ : ByteArray)).size + t106.size ≤ 9223372036854775807
       ·rw [if_pos c27] at H
        have c27b0 := eq_true c27
        have c27b1 : decide ((a0_3 ++ (⟨#[58,58]⟩ : ByteArray)).size + t106.size ≤ 9223372036854775807) = true := decide_eq_true c27
        try have c27b2 : (9223372036854775807 < (a0_3 ++ (⟨#[58,58]⟩ : ByteArray)).size + t106.size) = False := eq_false (Nat.not_lt.2 c27)
        try (have c27b9 := c27b2;simp only [ByteArray.size_append,show (⟨#[58,58]⟩ : ByteArray).size = 2 from rfl] at c27b9)
        obtain rfl := Option.some.inj H
        go_enter Tryz.func25,Tryz.ntmps25
        try go_wp2_with (first | ((with_reducible refine gate_dst (N := 1) rfl ?_);refine box_event ?hg (N := 1) ?hd (cs := #[.int .i64 a0_0,.int .i64 a0_1,.string a0_2,.string a0_3]) (t := 28) ?hr ?_;(case hd => rfl);(case hg => rfl);(case hr => first | (go_simp;done) | (go_simp;rfl));intro gb101 hg w28 hbox hb;have n0_ := qq.mk (zv (by repeat (first | (with_reducible first | exact HB.out | apply qj | apply qz | apply qk) | exact HB.out)) hb);have n1_ := qq.mk (hbox);have n2_ := qq.mk ((by rw [hg];exact (zw (by repeat (first | (with_reducible first | exact HB.out | apply qj | apply qz | apply qk) | exact HB.out))) : w.heap.size ≤ gb101));have n3_ := qq.mk ((by rw [hg];exact (zw (by repeat (first | (with_reducible first | exact HB.out | apply qj | apply qz | apply qk) | exact HB.out))) : w.heap.size ≤ gb101));clear HB;have HB := n0_;have BK101 := n1_;have GW101 := n2_;have GE101 := n3_;clear n0_ n1_ n2_ n3_;clear hb hbox hg;have hcz29_0 : w28.cell? ⟨gb101,0,none⟩ = some (.int .i64 a0_0) := (qw BK101.out 0).trans rfl;have hcz29_1 : w28.cell? ⟨gb101,1,none⟩ = some (.int .i64 a0_1) := (qw BK101.out 1).trans rfl;have hcz29_2 : w28.cell? ⟨gb101,2,none⟩ = some (.string a0_2) := (qw BK101.out 2).trans rfl;have hcz29_3 : w28.cell? ⟨gb101,3,none⟩ = some (.string a0_3) := (qw BK101.out 3).trans rfl;have hfz29_0 := qv BK101.out 0;have hfz29_1 := qv BK101.out 1;have hfz29_2 := qv BK101.out 2;have hfz29_3 := qv BK101.out 3) | ((with_reducible refine jv (f := 52) rfl ?_);refine goesL_ (some 10) rfl rfl Tryz.func52 (by kernel_rfl) rfl #[.agg #[.int .i64 a0_0,.int .i64 a0_1,.string a0_2,.string a0_3]] rfl (by (try simp only [List.map_toArray,List.map_cons,List.map_nil]);first | done | rfl | (simp only [List.length_drop,List.length_take];rfl)) ?_;(with_reducible refine (kv.calls k a0_0 a0_1 a0_2 a0_3 true _ A2.out).mono ?_);rintro e w30 ⟨rfl,hb⟩;refine ⟨_,rfl,?_⟩;have n0_ := qq.mk (jx (g := gb101) (o := .cells #[.int .i64 a0_0,.int .i64 a0_1,.string a0_2,.string a0_3] 28 (0,0)) (by (with_reducible repeat (first | refine zz ?_ _ | refine zj ?_ | refine zq ?_ _));exact BK101.out) hb);have n1_ := qq.mk (zv (by repeat (first | (with_reducible first | exact HB.out | apply qj | apply qz | apply qk | refine qx ?_ GE101.out) | exact HB.out)) hb);clear BK101;clear HB;have BK101 := n0_;have HB := n1_;clear n0_ n1_;(try clear hb);(try clear hb2);(try clear hk);(try clear hi);have hcz31_0 : w30.cell? ⟨gb101,0,none⟩ = some (.int .i64 a0_0) := (qw BK101.out 0).trans rfl;have hcz31_1 : w30.cell? ⟨gb101,1,none⟩ = some (.int .i64 a0_1) := (qw BK101.out 1).trans rfl;have hcz31_2 : w30.cell? ⟨gb101,2,none⟩ = some (.string a0_2) := (qw BK101.out 2).trans rfl;have hcz31_3 : w30.cell? ⟨gb101,3,none⟩ = some (.string a0_3) := (qw BK101.out 3).trans rfl;have hfz31_0 := qv BK101.out 0;have hfz31_1 := qv BK101.out 1;have hfz31_2 := qv BK101.out 2;have hfz31_3 := qv BK101.out 3))
        have n0_ := qq.mk (zj BK101.out)
        have n1_ := qq.mk (qk HB.out)
        clear BK101
        clear HB
        have BK101 := n0_
        have HB := n1_
        clear n0_ n1_
        refine start_ (n := 8) (S := fun w' => w'.cell? ⟨gb101,0,none⟩ = some (.int .i64 a0_0) ∧ w'.cell? ⟨gb101,1,none⟩ = some (.int .i64 a0_1) ∧ w'.cell? ⟨gb101,2,none⟩ = some (.string a0_2) ∧ w'.cell? ⟨gb101,3,none⟩ = some (.string a0_3)) (ds := []) #[false,false,false,false,false,false,false,false] (by kernel_rfl) rfl rfl ⟨(qw BK101.out 0).trans rfl,(qw BK101.out 1).trans rfl,(qw BK101.out 2).trans rfl,(qw BK101.out 3).trans rfl⟩ (fun hHeld => ?_);refine with_tabW kk.tab11 kk.bits11 (fun HT_ HW_ => ?_)
        generalize w30.drew = w32 at BK101 HB hHeld ⊢
        refine pure_ (i := 0) (N := some 32) (v := ?_) (a' := ?_) #[true,false,false,false,false,false,false,false] rfl rfl (any_of HT_.out (by kernel_rfl)) (fun _ _ _ h => h) (Or.inl ⟨by rfl,?_⟩) ?_ ?_
        rotate_left
        ·intro w'
         go_simp
         with_reducible rfl
        rotate_left
        ·simp only [Act.put,List.setIfInBounds_toArray,List.set_cons_zero,List.set_cons_succ,i64_w,i32_w]
         rfl
        refine pure_ (i := 3) (N := some 35) (v := ?_) (a' := ?_) #[true,false,false,true,false,false,false,false] rfl rfl (any_of HT_.out (by kernel_rfl)) (fun _ _ _ h => h) (Or.inl ⟨by rfl,?_⟩) ?_ ?_
        rotate_left
        ·intro w'
         go_simp
         with_reducible rfl
        rotate_left
        ·simp only [Act.put,List.setIfInBounds_toArray,List.set_cons_zero,List.set_cons_succ,i64_w,i32_w]
         rfl
        refine take_ (i := 1) (N := some 33) (v := ?_) (a' := ?_) #[true,true,false,true,false,false,false,false] rfl rfl (take_ofW HT_.out HW_.out (by kernel_rfl)) (fun _ _ _ h => h) (Or.inl ⟨by rfl,?_⟩) hHeld ?_ ?_
        rotate_left
        ·rintro w' ⟨s0,s1,s2,s3⟩
         go_simp
         with_reducible rfl
        rotate_left
        ·simp only [Act.put,List.setIfInBounds_toArray,List.set_cons_zero,List.set_cons_succ,i64_w,i32_w]
         rfl
        refine pure_ (i := 2) (N := some 34) (v := ?_) (a' := ?_) #[true,true,true,true,false,false,false,false] rfl rfl (any_of HT_.out (by kernel_rfl)) (fun _ _ _ h => h) (Or.inl ⟨by rfl,?_⟩) ?_ ?_
        rotate_left
        ·intro w'
         go_simp
         with_reducible rfl
        rotate_left
        ·simp only [Act.put,List.setIfInBounds_toArray,List.set_cons_zero,List.set_cons_succ,i64_w,i32_w]
         rfl
        refine take_ (i := 4) (N := some 36) (v := ?_) (a' := ?_) #[true,true,true,true,true,false,false,false] rfl rfl (take_ofW HT_.out HW_.out (by kernel_rfl)) (fun _ _ _ h => h) (Or.inl ⟨by rfl,?_⟩) hHeld ?_ ?_
        rotate_left
        ·rintro w' ⟨s0,s1,s2,s3⟩
         go_simp
         with_reducible rfl
        rotate_left
        ·simp only [Act.put,List.setIfInBounds_toArray,List.set_cons_zero,List.set_cons_succ,i64_w,i32_w]
         rfl
        refine one_ (i := 5) (N := some 37) #[true,true,true,true,true,true,false,false] rfl rfl (one_of HT_.out (by kernel_rfl)) (by decide) (fun K hK => ?_)
        refine goes_ Tryz.func56 (by kernel_rfl) rfl #[.string a0_2] (by rfl) rfl rfl (by (try simp only [List.map_toArray,List.map_cons,List.map_nil]);first | done | rfl | (simp only [List.length_drop,List.length_take];rfl)) ?_
        with_reducible refine (vx.calls a0_2 t106 _ A26.out).mono ?_
        rintro e w33 ⟨rfl,hb⟩
        refine ⟨_,rfl,?_⟩
        have n0_ := qq.mk (jx (g := gb101) (o := .cells #[.int .i64 a0_0,.int .i64 a0_1,.string a0_2,.string a0_3] 28 (0,0)) (by (with_reducible repeat (first | refine zz ?_ _ | refine zj ?_ | refine zq ?_ _));exact BK101.out) hb)
        have n1_ := qq.mk (zv (by repeat (first | (with_reducible first | exact HB.out | apply qj | apply qz | apply qk | refine qx ?_ GE101.out) | exact HB.out)) hb)
        clear BK101
        clear HB
        have BK101 := n0_
        have HB := n1_
        clear n0_ n1_
        (try clear hb)
        (try clear hb2)
        (try clear hk)
        (try clear hi)
        refine hK.out _ _ ⟨(qw BK101.out 0).trans rfl,(qw BK101.out 1).trans rfl,(qw BK101.out 2).trans rfl,(qw BK101.out 3).trans rfl⟩ (fun hHeld => ?_)
        clear hK K
        refine norm_ (a' := ?_) ?_ ?_
        rotate_left
        ·show Act.put _ (some 37) _ = _
         simp only [Act.put,List.setIfInBounds_toArray,List.set_cons_zero,List.set_cons_succ,i64_w,i32_w]
         rfl
        refine pure_ (i := 6) (N := some 38) (v := ?_) (a' := ?_) #[true,true,true,true,true,true,true,false] rfl rfl (any_of HT_.out (by kernel_rfl)) (fun _ _ _ h => h) (Or.inl ⟨by rfl,?_⟩) ?_ ?_
        rotate_left
        ·intro w'
         go_simp
         with_reducible rfl
        rotate_left
        ·simp only [Act.put,List.setIfInBounds_toArray,List.set_cons_zero,List.set_cons_succ,i64_w,i32_w]
         rfl
        refine pure_ (i := 7) (N := some 2) (v := ?_) (a' := ?_) #[true,true,true,true,true,true,true,true] rfl rfl (any_of HT_.out (by kernel_rfl)) (fun _ _ _ h => h) (Or.inl ⟨by rfl,?_⟩) ?_ ?_
        rotate_left
        ·intro w'
         go_simp
         with_reducible rfl
        rotate_left
        ·simp only [Act.put,List.setIfInBounds_toArray,List.set_cons_zero,List.set_cons_succ,i64_w,i32_w]
         rfl
        refine done_ (done_of HT_.out (by kernel_rfl)) ?_
        try go_wp2
        go_ret
        exact ⟨by first | rfl | (simp [*,jk,jj] <;> rfl),by repeat (first | (with_reducible first | exact HB.out | apply qj | apply qz | apply qk | refine qx ?_ GE101.out) | exact HB.out)⟩
       ·rw [if_neg c27] at H
        exact absurd H (by simp)
      ·rw [if_neg c25] at H
       exact absurd H (by simp)
     ·rw [if_neg c24] at H
      have c24b0 : (a0_0 == 4) = false := beq_eq_false_iff_ne.mpr c24
      have c24b1 : (a0_0 != 4) = true := bne_iff_ne.mpr c24
      by_cases c34 : a0_0 = 5
      ·rw [if_pos c34] at H
       have c34b0 : (a0_0 == 5) = true := beq_iff_eq.mpr c34
       have c34b1 : (a0_0 != 5) = false := bne_eq_false_iff_eq.mpr c34
       clear c34
       by_cases c35 : a0_1 < 0
       ·rw [if_pos c35] at H
        have c35b0 : decide (a0_1 < 0) = true := decide_eq_true c35
        clear c35
        replace H := Option.bind_eq_some_iff.mp H
        obtain ⟨t107,A360,H⟩ := H
        replace H : ((qzz.f (IntKind.u64.wrap (Int.tdiv (IntKind.u64.wrap (-(IntKind.u64.wrap (a0_1)))) 10000)) 10).bind fun t108 => (if 1 + t108.size ≤ 9223372036854775807 then (if ((⟨#[45]⟩ : ByteArray) ++ t108).size + 1 ≤ 9223372036854775807 then (if 1 ≤ (t107.size : Int) then (if (((⟨#[45]⟩ : ByteArray) ++ t108) ++ (⟨#[46]⟩ : ByteArray)).size + (t107.extract 1 t107.size).size ≤ 9223372036854775807 then (some ((((⟨#[45]⟩ : ByteArray) ++ t108) ++ (⟨#[46]⟩ : ByteArray)) ++ (t107.extract 1 t107.size))) else (none)) else (none)) else (none)) else (none))) = some r := H
        have A36 := qq.mk A360
        clear A360
        replace H := Option.bind_eq_some_iff.mp H
        obtain ⟨t108,A370,H⟩ := H
        replace H : (if 1 + t108.size ≤ 9223372036854775807 then (if ((⟨#[45]⟩ : ByteArray) ++ t108).size + 1 ≤ 9223372036854775807 then (if 1 ≤ (t107.size : Int) then (if (((⟨#[45]⟩ : ByteArray) ++ t108) ++ (⟨#[46]⟩ : ByteArray)).size + (t107.extract 1 t107.size).size ≤ 9223372036854775807 then (some ((((⟨#[45]⟩ : ByteArray) ++ t108) ++ (⟨#[46]⟩ : ByteArray)) ++ (t107.extract 1 t107.size))) else (none)) else (none)) else (none)) else (none)) = some r := H
        have A37 := qq.mk A370
        clear A370
        by_cases c38 : 1 + t108.size ≤ 9223372036854775807
        ·rw [if_pos c38] at H
         have c38b0 := eq_true c38
         have c38b1 : decide (1 + t108.size ≤ 9223372036854775807) = true := decide_eq_true c38
         try have c38b2 : (9223372036854775807 < 1 + t108.size) = False := eq_false (Nat.not_lt.2 c38)
         by_cases c39 : ((⟨#[45]⟩ : ByteArray) ++ t108).size + 1 ≤ 9223372036854775807
         ·rw [if_pos c39] at H
          have c39b0 := eq_true c39
          have c39b1 : decide (((⟨#[45]⟩ : ByteArray) ++ t108).size + 1 ≤ 9223372036854775807) = true := decide_eq_true c39
          try have c39b2 : (9223372036854775807 < ((⟨#[45]⟩ : ByteArray) ++ t108).size + 1) = False := eq_false (Nat.not_lt.2 c39)
          try (have c39b9 := c39b2;simp only [ByteArray.size_append,show (⟨#[45]⟩ : ByteArray).size = 1 from rfl] at c39b9)
          by_cases c40 : 1 ≤ (t107.size : Int)
          ·rw [if_pos c40] at H
           have c40b0 := eq_true c40
           have c40b1 : decide (1 ≤ (t107.size : Int)) = true := decide_eq_true c40
           clear c40
           by_cases c41 : (((⟨#[45]⟩ : ByteArray) ++ t108) ++ (⟨#[46]⟩ : ByteArray)).size + (t107.extract 1 t107.size).size ≤ 9223372036854775807
           ·rw [if_pos c41] at H
            have c41b0 := eq_true c41
            have c41b1 : decide ((((⟨#[45]⟩ : ByteArray) ++ t108) ++ (⟨#[46]⟩ : ByteArray)).size + (t107.extract 1 t107.size).size ≤ 9223372036854775807) = true := decide_eq_true c41
            try have c41b2 : (9223372036854775807 < (((⟨#[45]⟩ : ByteArray) ++ t108) ++ (⟨#[46]⟩ : ByteArray)).size + (t107.extract 1 t107.size).size) = False := eq_false (Nat.not_lt.2 c41)
            have c41b5 : (9223372036854775807 < 1 + t108.size + 1 + (t107.size - 1)) = False := eq_false (by
             have e_ := c41
             simp only [ByteArray.size_append,ByteArray.size_extract,Nat.min_self,Nat.zero_add,show (⟨#[]⟩ : ByteArray).size = 0 from rfl,show (⟨#[45]⟩ : ByteArray).size = 1 from rfl,show (⟨#[46]⟩ : ByteArray).size = 1 from rfl] at e_
             exact Nat.not_lt.2 e_)
            try (have c41b9 := c41b2;simp only [ByteArray.size_append,show (⟨#[45]⟩ : ByteArray).size = 1 from rfl,show (⟨#[46]⟩ : ByteArray).size = 1 from rfl] at c41b9)
            obtain rfl := Option.some.inj H
            go_enter Tryz.func25,Tryz.ntmps25
            try go_wp2_with (first | ((with_reducible refine gate_dst (N := 1) rfl ?_);refine box_event ?hg (N := 1) ?hd (cs := #[.int .i64 a0_0,.int .i64 a0_1,.string a0_2,.string a0_3]) (t := 28) ?hr ?_;(case hd => rfl);(case hg => rfl);(case hr => first | (go_simp;done) | (go_simp;rfl));intro gb101 hg w42 hbox hb;have n0_ := qq.mk (zv (by repeat (first | (with_reducible first | exact HB.out | apply qj | apply qz | apply qk) | exact HB.out)) hb);have n1_ := qq.mk (hbox);have n2_ := qq.mk ((by rw [hg];exact (zw (by repeat (first | (with_reducible first | exact HB.out | apply qj | apply qz | apply qk) | exact HB.out))) : w.heap.size ≤ gb101));have n3_ := qq.mk ((by rw [hg];exact (zw (by repeat (first | (with_reducible first | exact HB.out | apply qj | apply qz | apply qk) | exact HB.out))) : w.heap.size ≤ gb101));clear HB;have HB := n0_;have BK101 := n1_;have GW101 := n2_;have GE101 := n3_;clear n0_ n1_ n2_ n3_;clear hb hbox hg;have hcz43_0 : w42.cell? ⟨gb101,0,none⟩ = some (.int .i64 a0_0) := (qw BK101.out 0).trans rfl;have hcz43_1 : w42.cell? ⟨gb101,1,none⟩ = some (.int .i64 a0_1) := (qw BK101.out 1).trans rfl;have hcz43_2 : w42.cell? ⟨gb101,2,none⟩ = some (.string a0_2) := (qw BK101.out 2).trans rfl;have hcz43_3 : w42.cell? ⟨gb101,3,none⟩ = some (.string a0_3) := (qw BK101.out 3).trans rfl;have hfz43_0 := qv BK101.out 0;have hfz43_1 := qv BK101.out 1;have hfz43_2 := qv BK101.out 2;have hfz43_3 := qv BK101.out 3) | ((with_reducible refine jv (f := 52) rfl ?_);refine goesL_ (some 10) rfl rfl Tryz.func52 (by kernel_rfl) rfl #[.agg #[.int .i64 a0_0,.int .i64 a0_1,.string a0_2,.string a0_3]] rfl (by (try simp only [List.map_toArray,List.map_cons,List.map_nil]);first | done | rfl | (simp only [List.length_drop,List.length_take];rfl)) ?_;(with_reducible refine (kv.calls k a0_0 a0_1 a0_2 a0_3 true _ A2.out).mono ?_);rintro e w44 ⟨rfl,hb⟩;refine ⟨_,rfl,?_⟩;have n0_ := qq.mk (jx (g := gb101) (o := .cells #[.int .i64 a0_0,.int .i64 a0_1,.string a0_2,.string a0_3] 28 (0,0)) (by (with_reducible repeat (first | refine zz ?_ _ | refine zj ?_ | refine zq ?_ _));exact BK101.out) hb);have n1_ := qq.mk (zv (by repeat (first | (with_reducible first | exact HB.out | apply qj | apply qz | apply qk | refine qx ?_ GE101.out) | exact HB.out)) hb);clear BK101;clear HB;have BK101 := n0_;have HB := n1_;clear n0_ n1_;(try clear hb);(try clear hb2);(try clear hk);(try clear hi);have hcz45_0 : w44.cell? ⟨gb101,0,none⟩ = some (.int .i64 a0_0) := (qw BK101.out 0).trans rfl;have hcz45_1 : w44.cell? ⟨gb101,1,none⟩ = some (.int .i64 a0_1) := (qw BK101.out 1).trans rfl;have hcz45_2 : w44.cell? ⟨gb101,2,none⟩ = some (.string a0_2) := (qw BK101.out 2).trans rfl;have hcz45_3 : w44.cell? ⟨gb101,3,none⟩ = some (.string a0_3) := (qw BK101.out 3).trans rfl;have hfz45_0 := qv BK101.out 0;have hfz45_1 := qv BK101.out 1;have hfz45_2 := qv BK101.out 2;have hfz45_3 := qv BK101.out 3))
            have n0_ := qq.mk (zj BK101.out)
            have n1_ := qq.mk (qk HB.out)
            clear BK101
            clear HB
            have BK101 := n0_
            have HB := n1_
            clear n0_ n1_
            refine start_ (n := 5) (S := fun w' => w'.cell? ⟨gb101,0,none⟩ = some (.int .i64 a0_0) ∧ w'.cell? ⟨gb101,1,none⟩ = some (.int .i64 a0_1) ∧ w'.cell? ⟨gb101,2,none⟩ = some (.string a0_2) ∧ w'.cell? ⟨gb101,3,none⟩ = some (.string a0_3)) (ds := []) #[false,false,false,false,false] (by kernel_rfl) rfl rfl ⟨(qw BK101.out 0).trans rfl,(qw BK101.out 1).trans rfl,(qw BK101.out 2).trans rfl,(qw BK101.out 3).trans rfl⟩ (fun hHeld => ?_)
            generalize w44.drew = w46 at BK101 HB hHeld ⊢
            refine pure_ (i := 0) (N := some 41) (v := ?_) (a' := ?_) #[true,false,false,false,false] rfl rfl (by kernel_rfl) (fun _ _ _ h => h) (Or.inl ⟨by rfl,?_⟩) ?_ ?_
            rotate_left
            ·intro w'
             go_simp
             with_reducible rfl
            rotate_left
            ·simp only [Act.put,List.setIfInBounds_toArray,List.set_cons_zero,List.set_cons_succ,i64_w,i32_w]
             rfl
            refine pure_ (i := 3) (N := some 3) (v := ?_) (a' := ?_) #[true,false,false,true,false] rfl rfl (by kernel_rfl) (fun _ _ _ h => h) (Or.inl ⟨by rfl,?_⟩) ?_ ?_
            rotate_left
            ·intro w'
             go_simp
             with_reducible rfl
            rotate_left
            ·simp only [Act.put,List.setIfInBounds_toArray,List.set_cons_zero,List.set_cons_succ,i64_w,i32_w]
             rfl
            refine take_ (i := 1) (N := some 42) (v := ?_) (a' := ?_) #[true,true,false,true,false] rfl rfl (by kernel_rfl) (fun _ _ _ h => h) (Or.inl ⟨by rfl,?_⟩) hHeld ?_ ?_
            rotate_left
            ·rintro w' ⟨s0,s1,s2,s3⟩
             go_simp
             with_reducible rfl
            rotate_left
            ·simp only [Act.put,List.setIfInBounds_toArray,List.set_cons_zero,List.set_cons_succ,i64_w,i32_w]
             rfl
            refine pure_ (i := 2) (N := some 43) (v := ?_) (a' := ?_) #[true,true,true,true,false] rfl rfl (by kernel_rfl) (fun _ _ _ h => h) (Or.inl ⟨by rfl,?_⟩) ?_ ?_
            rotate_left
            ·intro w'
             go_simp
             with_reducible rfl
            rotate_left
            ·simp only [Act.put,List.setIfInBounds_toArray,List.set_cons_zero,List.set_cons_succ,i64_w,i32_w]
             rfl
            refine pure_ (i := 4) (N := some 4) (v := ?_) (a' := ?_) #[true,true,true,true,true] rfl rfl (by kernel_rfl) (fun _ _ _ h => h) (Or.inl ⟨by rfl,?_⟩) ?_ ?_
            rotate_left
            ·intro w'
             go_simp
             with_reducible rfl
            rotate_left
            ·simp only [Act.put,List.setIfInBounds_toArray,List.set_cons_zero,List.set_cons_succ,i64_w,i32_w]
             rfl
            refine done_ (by kernel_rfl) ?_
            have hcz47_0 : w46.cell? ⟨gb101,0,none⟩ = some (.int .i64 a0_0) := (qw BK101.out 0).trans rfl
            have hcz47_1 : w46.cell? ⟨gb101,1,none⟩ = some (.int .i64 a0_1) := (qw BK101.out 1).trans rfl
            have hcz47_2 : w46.cell? ⟨gb101,2,none⟩ = some (.string a0_2) := (qw BK101.out 2).trans rfl
            have hcz47_3 : w46.cell? ⟨gb101,3,none⟩ = some (.string a0_3) := (qw BK101.out 3).trans rfl
            have hfz47_0 := qv BK101.out 0
            have hfz47_1 := qv BK101.out 1
            have hfz47_2 := qv BK101.out 2
            have hfz47_3 := qv BK101.out 3
            try go_wp2_with (first | ((with_reducible refine jv (f := 57) rfl ?_);refine goesL_ (some 52) rfl rfl Tryz.func57 (by kernel_rfl) rfl #[.int .u64 (IntKind.u64.wrap ((Int.tmod (IntKind.u64.wrap (-(IntKind.u64.wrap (a0_1)))) 10000) + 10000)),.int .i64 10] rfl (by (try simp only [List.map_toArray,List.map_cons,List.map_nil]);first | done | rfl | (simp only [List.length_drop,List.length_take];rfl)) ?_;(with_reducible refine (qzz.calls (IntKind.u64.wrap ((Int.tmod (IntKind.u64.wrap (-(IntKind.u64.wrap (a0_1)))) 10000) + 10000)) 10 t107 _ ?tabw A36.out).mono ?_);(case tabw => repeat (first | exact HTAB.out | exact TabW_below HTAB.out HB.out | (with_reducible refine TabW_drewN ?_ _) | (with_reducible refine TabW_drew ?_) | (with_reducible refine TabW_alloc ?_ _)));rintro e w48 ⟨rfl,hb⟩;refine ⟨_,rfl,?_⟩;have n0_ := qq.mk (jx (g := gb101) (o := .cells #[.int .i64 a0_0,.int .i64 a0_1,.string a0_2,.string a0_3] 28 (0,0)) (by (with_reducible repeat (first | refine zz ?_ _ | refine zj ?_ | refine zq ?_ _));exact BK101.out) hb);have n1_ := qq.mk (zv (by repeat (first | (with_reducible first | exact HB.out | apply qj | apply qz | apply qk | refine qx ?_ GE101.out) | exact HB.out)) hb);clear BK101;clear HB;have BK101 := n0_;have HB := n1_;clear n0_ n1_;(try clear hb);(try clear hb2);(try clear hk);(try clear hi)))
            have n0_ := qq.mk (zj BK101.out)
            have n1_ := qq.mk (qk HB.out)
            clear BK101
            clear HB
            have BK101 := n0_
            have HB := n1_
            clear n0_ n1_
            refine start_ (n := 10) (S := fun w' => True) (ds := []) #[false,false,false,false,false,false,false,false,false,false] (by kernel_rfl) rfl rfl trivial (fun hHeld => ?_);refine with_tabW kk.tab17 kk.bits17 (fun HT_ HW_ => ?_)
            generalize w48.drew = w49 at BK101 HB hHeld ⊢
            refine pure_ (i := 0) (N := some 53) (v := ?_) (a' := ?_) #[true,false,false,false,false,false,false,false,false,false] rfl rfl (any_of HT_.out (by kernel_rfl)) (fun _ _ _ h => h) (Or.inl ⟨by rfl,?_⟩) ?_ ?_
            rotate_left
            ·intro w'
             go_simp
             with_reducible rfl
            rotate_left
            ·simp only [Act.put,List.setIfInBounds_toArray,List.set_cons_zero,List.set_cons_succ,i64_w,i32_w]
             rfl
            refine pure_ (i := 1) (N := some 54) (v := ?_) (a' := ?_) #[true,true,false,false,false,false,false,false,false,false] rfl rfl (any_of HT_.out (by kernel_rfl)) (fun _ _ _ h => h) (Or.inl ⟨by rfl,?_⟩) ?_ ?_
            rotate_left
            ·intro w'
             go_simp
             with_reducible rfl
            rotate_left
            ·simp only [Act.put,List.setIfInBounds_toArray,List.set_cons_zero,List.set_cons_succ,i64_w,i32_w]
             rfl
            refine pure_ (i := 2) (N := some 55) (v := ?_) (a' := ?_) #[true,true,true,false,false,false,false,false,false,false] rfl rfl (any_of HT_.out (by kernel_rfl)) (fun _ _ _ h => h) (Or.inl ⟨by rfl,?_⟩) ?_ ?_
            rotate_left
            ·intro w'
             go_simp
             with_reducible rfl
            rotate_left
            ·simp only [Act.put,List.setIfInBounds_toArray,List.set_cons_zero,List.set_cons_succ,i64_w,i32_w]
             rfl
            refine pure_ (i := 6) (N := some 59) (v := ?_) (a' := ?_) #[true,true,true,false,false,false,true,false,false,false] rfl rfl (any_of HT_.out (by kernel_rfl)) (fun _ _ _ h => h) (Or.inl ⟨by rfl,?_⟩) ?_ ?_
            rotate_left
            ·intro w'
             go_simp
             with_reducible rfl
            rotate_left
            ·simp only [Act.put,List.setIfInBounds_toArray,List.set_cons_zero,List.set_cons_succ,i64_w,i32_w]
             rfl
            refine pure_ (i := 7) (N := some 60) (v := ?_) (a' := ?_) #[true,true,true,false,false,false,true,true,false,false] rfl rfl (any_of HT_.out (by kernel_rfl)) (fun _ _ _ h => h) (Or.inl ⟨by rfl,?_⟩) ?_ ?_
            rotate_left
            ·intro w'
             go_simp
             with_reducible rfl
            rotate_left
            ·simp only [Act.put,List.setIfInBounds_toArray,List.set_cons_zero,List.set_cons_succ,i64_w,i32_w]
             rfl
            refine one_ (i := 3) (N := some 56) #[true,true,true,true,false,false,true,true,false,false] rfl rfl (one_of HT_.out (by kernel_rfl)) (by decide) (fun K hK => ?_)
            refine goes_ Tryz.func57 (by kernel_rfl) rfl #[.int .u64 (IntKind.u64.wrap (Int.tdiv (IntKind.u64.wrap (-(IntKind.u64.wrap (a0_1)))) 10000)),.int .i64 10] (by rfl) rfl rfl (by (try simp only [List.map_toArray,List.map_cons,List.map_nil]);first | done | rfl | (simp only [List.length_drop,List.length_take];rfl)) ?_
            with_reducible refine (qzz.calls (IntKind.u64.wrap (Int.tdiv (IntKind.u64.wrap (-(IntKind.u64.wrap (a0_1)))) 10000)) 10 t108 _ ?tabw A37.out).mono ?_
            (case tabw => repeat (first | exact HTAB.out | exact TabW_below HTAB.out HB.out | (with_reducible refine TabW_drewN ?_ _) | (with_reducible refine TabW_drew ?_) | (with_reducible refine TabW_alloc ?_ _)))
            rintro e w50 ⟨rfl,hb⟩
            refine ⟨_,rfl,?_⟩
            have n0_ := qq.mk (jx (g := gb101) (o := .cells #[.int .i64 a0_0,.int .i64 a0_1,.string a0_2,.string a0_3] 28 (0,0)) (by (with_reducible repeat (first | refine zz ?_ _ | refine zj ?_ | refine zq ?_ _));exact BK101.out) hb)
            have n1_ := qq.mk (zv (by repeat (first | (with_reducible first | exact HB.out | apply qj | apply qz | apply qk | refine qx ?_ GE101.out) | exact HB.out)) hb)
            clear BK101
            clear HB
            have BK101 := n0_
            have HB := n1_
            clear n0_ n1_
            (try clear hb)
            (try clear hb2)
            (try clear hk)
            (try clear hi)
            refine hK.out _ _ trivial (fun hHeld => ?_)
            clear hK K
            refine norm_ (a' := ?_) ?_ ?_
            rotate_left
            ·show Act.put _ (some 56) _ = _
             simp only [Act.put,List.setIfInBounds_toArray,List.set_cons_zero,List.set_cons_succ,i64_w,i32_w]
             rfl
            refine pure_ (i := 4) (N := some 57) (v := ?_) (a' := ?_) #[true,true,true,true,true,false,true,true,false,false] rfl rfl (any_of HT_.out (by kernel_rfl)) (fun _ _ _ h => h) (Or.inl ⟨by rfl,?_⟩) ?_ ?_
            rotate_left
            ·intro w'
             go_simp
             with_reducible rfl
            rotate_left
            ·simp only [Act.put,List.setIfInBounds_toArray,List.set_cons_zero,List.set_cons_succ,i64_w,i32_w]
             rfl
            refine pure_ (i := 5) (N := some 58) (v := ?_) (a' := ?_) #[true,true,true,true,true,true,true,true,false,false] rfl rfl (any_of HT_.out (by kernel_rfl)) (fun _ _ _ h => h) (Or.inl ⟨by rfl,?_⟩) ?_ ?_
            rotate_left
            ·intro w'
             go_simp
             with_reducible rfl
            rotate_left
            ·simp only [Act.put,List.setIfInBounds_toArray,List.set_cons_zero,List.set_cons_succ,i64_w,i32_w]
             rfl
            refine pure_ (i := 8) (N := some 61) (v := ?_) (a' := ?_) #[true,true,true,true,true,true,true,true,true,false] rfl rfl (any_of HT_.out (by kernel_rfl)) (fun _ _ _ h => h) (Or.inl ⟨by rfl,?_⟩) ?_ ?_
            rotate_left
            ·intro w'
             go_simp
             with_reducible rfl
            rotate_left
            ·simp only [Act.put,List.setIfInBounds_toArray,List.set_cons_zero,List.set_cons_succ,i64_w,i32_w]
             rfl
            refine pure_ (i := 9) (N := some 2) (v := ?_) (a' := ?_) #[true,true,true,true,true,true,true,true,true,true] rfl rfl (any_of HT_.out (by kernel_rfl)) (fun _ _ _ h => h) (Or.inl ⟨by rfl,?_⟩) ?_ ?_
            rotate_left
            ·intro w'
             go_simp
             with_reducible rfl
            rotate_left
            ·simp only [Act.put,List.setIfInBounds_toArray,List.set_cons_zero,List.set_cons_succ,i64_w,i32_w]
             rfl
            refine done_ (done_of HT_.out (by kernel_rfl)) ?_
            try go_wp2
            go_ret
            exact ⟨by first | rfl | (simp [*,jk,jj] <;> rfl),by repeat (first | (with_reducible first | exact HB.out | apply qj | apply qz | apply qk | refine qx ?_ GE101.out) | exact HB.out)⟩
           ·rw [if_neg c41] at H
            exact absurd H (by simp)
          ·rw [if_neg c40] at H
           exact absurd H (by simp)
         ·rw [if_neg c39] at H
          exact absurd H (by simp)
        ·rw [if_neg c38] at H
         exact absurd H (by simp)
       ·rw [if_neg c35] at H
        have c35b0 : decide (a0_1 < 0) = false := decide_eq_false c35
        clear c35
        replace H := Option.bind_eq_some_iff.mp H
        obtain ⟨t109,A510,H⟩ := H
        replace H : ((qzz.f (IntKind.u64.wrap (Int.tdiv (IntKind.u64.wrap (a0_1)) 10000)) 10).bind fun t110 => (if 0 + t110.size ≤ 9223372036854775807 then (if ((⟨#[]⟩ : ByteArray) ++ t110).size + 1 ≤ 9223372036854775807 then (if 1 ≤ (t109.size : Int) then (if (((⟨#[]⟩ : ByteArray) ++ t110) ++ (⟨#[46]⟩ : ByteArray)).size + (t109.extract 1 t109.size).size ≤ 9223372036854775807 then (some ((((⟨#[]⟩ : ByteArray) ++ t110) ++ (⟨#[46]⟩ : ByteArray)) ++ (t109.extract 1 t109.size))) else (none)) else (none)) else (none)) else (none))) = some r := H
        have A51 := qq.mk A510
        clear A510
        replace H := Option.bind_eq_some_iff.mp H
        obtain ⟨t110,A520,H⟩ := H
        replace H : (if 0 + t110.size ≤ 9223372036854775807 then (if ((⟨#[]⟩ : ByteArray) ++ t110).size + 1 ≤ 9223372036854775807 then (if 1 ≤ (t109.size : Int) then (if (((⟨#[]⟩ : ByteArray) ++ t110) ++ (⟨#[46]⟩ : ByteArray)).size + (t109.extract 1 t109.size).size ≤ 9223372036854775807 then (some ((((⟨#[]⟩ : ByteArray) ++ t110) ++ (⟨#[46]⟩ : ByteArray)) ++ (t109.extract 1 t109.size))) else (none)) else (none)) else (none)) else (none)) = some r := H
        have A52 := qq.mk A520
        clear A520
        by_cases c53 : 0 + t110.size ≤ 9223372036854775807
        ·rw [if_pos c53] at H
         have c53b0 := eq_true c53
         have c53b1 : decide (0 + t110.size ≤ 9223372036854775807) = true := decide_eq_true c53
         try have c53b2 : (9223372036854775807 < 0 + t110.size) = False := eq_false (Nat.not_lt.2 c53)
         have c53b5 : (9223372036854775807 < t110.size) = False := eq_false (by
          have e_ := c53
          simp only [ByteArray.size_append,ByteArray.size_extract,Nat.min_self,Nat.zero_add,show (⟨#[]⟩ : ByteArray).size = 0 from rfl,show (⟨#[45]⟩ : ByteArray).size = 1 from rfl,show (⟨#[46]⟩ : ByteArray).size = 1 from rfl] at e_
          exact Nat.not_lt.2 e_)
         by_cases c54 : ((⟨#[]⟩ : ByteArray) ++ t110).size + 1 ≤ 9223372036854775807
         ·rw [if_pos c54] at H
          have c54b0 := eq_true c54
          have c54b1 : decide (((⟨#[]⟩ : ByteArray) ++ t110).size + 1 ≤ 9223372036854775807) = true := decide_eq_true c54
          try have c54b2 : (9223372036854775807 < ((⟨#[]⟩ : ByteArray) ++ t110).size + 1) = False := eq_false (Nat.not_lt.2 c54)
          have c54b5 : (9223372036854775807 < t110.size + 1) = False := eq_false (by
           have e_ := c54
           simp only [ByteArray.size_append,ByteArray.size_extract,Nat.min_self,Nat.zero_add,show (⟨#[]⟩ : ByteArray).size = 0 from rfl,show (⟨#[45]⟩ : ByteArray).size = 1 from rfl,show (⟨#[46]⟩ : ByteArray).size = 1 from rfl] at e_
           exact Nat.not_lt.2 e_)
          try (have c54b9 := c54b2;simp only [ByteArray.size_append,show (⟨#[]⟩ : ByteArray).size = 0 from rfl] at c54b9)
          by_cases c55 : 1 ≤ (t109.size : Int)
          ·rw [if_pos c55] at H
           have c55b0 := eq_true c55
           have c55b1 : decide (1 ≤ (t109.size : Int)) = true := decide_eq_true c55
           clear c55
           by_cases c56 : (((⟨#[]⟩ : ByteArray) ++ t110) ++ (⟨#[46]⟩ : ByteArray)).size + (t109.extract 1 t109.size).size ≤ 9223372036854775807
           ·rw [if_pos c56] at H
            have c56b0 := eq_true c56
            have c56b1 : decide ((((⟨#[]⟩ : ByteArray) ++ t110) ++ (⟨#[46]⟩ : ByteArray)).size + (t109.extract 1 t109.size).size ≤ 9223372036854775807) = true := decide_eq_true c56
            try have c56b2 : (9223372036854775807 < (((⟨#[]⟩ : ByteArray) ++ t110) ++ (⟨#[46]⟩ : ByteArray)).size + (t109.extract 1 t109.size).size) = False := eq_false (Nat.not_lt.2 c56)
            have c56b5 : (9223372036854775807 < t110.size + 1 + (t109.size - 1)) = False := eq_false (by
             have e_ := c56
             simp only [ByteArray.size_append,ByteArray.size_extract,Nat.min_self,Nat.zero_add,show (⟨#[]⟩ : ByteArray).size = 0 from rfl,show (⟨#[45]⟩ : ByteArray).size = 1 from rfl,show (⟨#[46]⟩ : ByteArray).size = 1 from rfl] at e_
             exact Nat.not_lt.2 e_)
            try (have c56b9 := c56b2;simp only [ByteArray.size_append,show (⟨#[]⟩ : ByteArray).size = 0 from rfl,show (⟨#[46]⟩ : ByteArray).size = 1 from rfl] at c56b9)
            obtain rfl := Option.some.inj H
            go_enter Tryz.func25,Tryz.ntmps25
            try go_wp2_with (first | ((with_reducible refine gate_dst (N := 1) rfl ?_);refine box_event ?hg (N := 1) ?hd (cs := #[.int .i64 a0_0,.int .i64 a0_1,.string a0_2,.string a0_3]) (t := 28) ?hr ?_;(case hd => rfl);(case hg => rfl);(case hr => first | (go_simp;done) | (go_simp;rfl));intro gb101 hg w57 hbox hb;have n0_ := qq.mk (zv (by repeat (first | (with_reducible first | exact HB.out | apply qj | apply qz | apply qk) | exact HB.out)) hb);have n1_ := qq.mk (hbox);have n2_ := qq.mk ((by rw [hg];exact (zw (by repeat (first | (with_reducible first | exact HB.out | apply qj | apply qz | apply qk) | exact HB.out))) : w.heap.size ≤ gb101));have n3_ := qq.mk ((by rw [hg];exact (zw (by repeat (first | (with_reducible first | exact HB.out | apply qj | apply qz | apply qk) | exact HB.out))) : w.heap.size ≤ gb101));clear HB;have HB := n0_;have BK101 := n1_;have GW101 := n2_;have GE101 := n3_;clear n0_ n1_ n2_ n3_;clear hb hbox hg;have hcz58_0 : w57.cell? ⟨gb101,0,none⟩ = some (.int .i64 a0_0) := (qw BK101.out 0).trans rfl;have hcz58_1 : w57.cell? ⟨gb101,1,none⟩ = some (.int .i64 a0_1) := (qw BK101.out 1).trans rfl;have hcz58_2 : w57.cell? ⟨gb101,2,none⟩ = some (.string a0_2) := (qw BK101.out 2).trans rfl;have hcz58_3 : w57.cell? ⟨gb101,3,none⟩ = some (.string a0_3) := (qw BK101.out 3).trans rfl;have hfz58_0 := qv BK101.out 0;have hfz58_1 := qv BK101.out 1;have hfz58_2 := qv BK101.out 2;have hfz58_3 := qv BK101.out 3) | ((with_reducible refine jv (f := 52) rfl ?_);refine goesL_ (some 10) rfl rfl Tryz.func52 (by kernel_rfl) rfl #[.agg #[.int .i64 a0_0,.int .i64 a0_1,.string a0_2,.string a0_3]] rfl (by (try simp only [List.map_toArray,List.map_cons,List.map_nil]);first | done | rfl | (simp only [List.length_drop,List.length_take];rfl)) ?_;(with_reducible refine (kv.calls k a0_0 a0_1 a0_2 a0_3 true _ A2.out).mono ?_);rintro e w59 ⟨rfl,hb⟩;refine ⟨_,rfl,?_⟩;have n0_ := qq.mk (jx (g := gb101) (o := .cells #[.int .i64 a0_0,.int .i64 a0_1,.string a0_2,.string a0_3] 28 (0,0)) (by (with_reducible repeat (first | refine zz ?_ _ | refine zj ?_ | refine zq ?_ _));exact BK101.out) hb);have n1_ := qq.mk (zv (by repeat (first | (with_reducible first | exact HB.out | apply qj | apply qz | apply qk | refine qx ?_ GE101.out) | exact HB.out)) hb);clear BK101;clear HB;have BK101 := n0_;have HB := n1_;clear n0_ n1_;(try clear hb);(try clear hb2);(try clear hk);(try clear hi);have hcz60_0 : w59.cell? ⟨gb101,0,none⟩ = some (.int .i64 a0_0) := (qw BK101.out 0).trans rfl;have hcz60_1 : w59.cell? ⟨gb101,1,none⟩ = some (.int .i64 a0_1) := (qw BK101.out 1).trans rfl;have hcz60_2 : w59.cell? ⟨gb101,2,none⟩ = some (.string a0_2) := (qw BK101.out 2).trans rfl;have hcz60_3 : w59.cell? ⟨gb101,3,none⟩ = some (.string a0_3) := (qw BK101.out 3).trans rfl;have hfz60_0 := qv BK101.out 0;have hfz60_1 := qv BK101.out 1;have hfz60_2 := qv BK101.out 2;have hfz60_3 := qv BK101.out 3))
            have n0_ := qq.mk (zj BK101.out)
            have n1_ := qq.mk (qk HB.out)
            clear BK101
            clear HB
            have BK101 := n0_
            have HB := n1_
            clear n0_ n1_
            refine start_ (n := 5) (S := fun w' => w'.cell? ⟨gb101,0,none⟩ = some (.int .i64 a0_0) ∧ w'.cell? ⟨gb101,1,none⟩ = some (.int .i64 a0_1) ∧ w'.cell? ⟨gb101,2,none⟩ = some (.string a0_2) ∧ w'.cell? ⟨gb101,3,none⟩ = some (.string a0_3)) (ds := []) #[false,false,false,false,false] (by kernel_rfl) rfl rfl ⟨(qw BK101.out 0).trans rfl,(qw BK101.out 1).trans rfl,(qw BK101.out 2).trans rfl,(qw BK101.out 3).trans rfl⟩ (fun hHeld => ?_)
            generalize w59.drew = w61 at BK101 HB hHeld ⊢
            refine pure_ (i := 0) (N := some 41) (v := ?_) (a' := ?_) #[true,false,false,false,false] rfl rfl (by kernel_rfl) (fun _ _ _ h => h) (Or.inl ⟨by rfl,?_⟩) ?_ ?_
            rotate_left
            ·intro w'
             go_simp
             with_reducible rfl
            rotate_left
            ·simp only [Act.put,List.setIfInBounds_toArray,List.set_cons_zero,List.set_cons_succ,i64_w,i32_w]
             rfl
            refine pure_ (i := 3) (N := some 3) (v := ?_) (a' := ?_) #[true,false,false,true,false] rfl rfl (by kernel_rfl) (fun _ _ _ h => h) (Or.inl ⟨by rfl,?_⟩) ?_ ?_
            rotate_left
            ·intro w'
             go_simp
             with_reducible rfl
            rotate_left
            ·simp only [Act.put,List.setIfInBounds_toArray,List.set_cons_zero,List.set_cons_succ,i64_w,i32_w]
             rfl
            refine take_ (i := 1) (N := some 42) (v := ?_) (a' := ?_) #[true,true,false,true,false] rfl rfl (by kernel_rfl) (fun _ _ _ h => h) (Or.inl ⟨by rfl,?_⟩) hHeld ?_ ?_
            rotate_left
            ·rintro w' ⟨s0,s1,s2,s3⟩
             go_simp
             with_reducible rfl
            rotate_left
            ·simp only [Act.put,List.setIfInBounds_toArray,List.set_cons_zero,List.set_cons_succ,i64_w,i32_w]
             rfl
            refine pure_ (i := 2) (N := some 43) (v := ?_) (a' := ?_) #[true,true,true,true,false] rfl rfl (by kernel_rfl) (fun _ _ _ h => h) (Or.inl ⟨by rfl,?_⟩) ?_ ?_
            rotate_left
            ·intro w'
             go_simp
             with_reducible rfl
            rotate_left
            ·simp only [Act.put,List.setIfInBounds_toArray,List.set_cons_zero,List.set_cons_succ,i64_w,i32_w]
             rfl
            refine pure_ (i := 4) (N := some 4) (v := ?_) (a' := ?_) #[true,true,true,true,true] rfl rfl (by kernel_rfl) (fun _ _ _ h => h) (Or.inl ⟨by rfl,?_⟩) ?_ ?_
            rotate_left
            ·intro w'
             go_simp
             with_reducible rfl
            rotate_left
            ·simp only [Act.put,List.setIfInBounds_toArray,List.set_cons_zero,List.set_cons_succ,i64_w,i32_w]
             rfl
            refine done_ (by kernel_rfl) ?_
            have hcz62_0 : w61.cell? ⟨gb101,0,none⟩ = some (.int .i64 a0_0) := (qw BK101.out 0).trans rfl
            have hcz62_1 : w61.cell? ⟨gb101,1,none⟩ = some (.int .i64 a0_1) := (qw BK101.out 1).trans rfl
            have hcz62_2 : w61.cell? ⟨gb101,2,none⟩ = some (.string a0_2) := (qw BK101.out 2).trans rfl
            have hcz62_3 : w61.cell? ⟨gb101,3,none⟩ = some (.string a0_3) := (qw BK101.out 3).trans rfl
            have hfz62_0 := qv BK101.out 0
            have hfz62_1 := qv BK101.out 1
            have hfz62_2 := qv BK101.out 2
            have hfz62_3 := qv BK101.out 3
            try go_wp2_with (first | ((with_reducible refine jv (f := 57) rfl ?_);refine goesL_ (some 52) rfl rfl Tryz.func57 (by kernel_rfl) rfl #[.int .u64 (IntKind.u64.wrap ((Int.tmod (IntKind.u64.wrap (a0_1)) 10000) + 10000)),.int .i64 10] rfl (by (try simp only [List.map_toArray,List.map_cons,List.map_nil]);first | done | rfl | (simp only [List.length_drop,List.length_take];rfl)) ?_;(with_reducible refine (qzz.calls (IntKind.u64.wrap ((Int.tmod (IntKind.u64.wrap (a0_1)) 10000) + 10000)) 10 t109 _ ?tabw A51.out).mono ?_);(case tabw => repeat (first | exact HTAB.out | exact TabW_below HTAB.out HB.out | (with_reducible refine TabW_drewN ?_ _) | (with_reducible refine TabW_drew ?_) | (with_reducible refine TabW_alloc ?_ _)));rintro e w63 ⟨rfl,hb⟩;refine ⟨_,rfl,?_⟩;have n0_ := qq.mk (jx (g := gb101) (o := .cells #[.int .i64 a0_0,.int .i64 a0_1,.string a0_2,.string a0_3] 28 (0,0)) (by (with_reducible repeat (first | refine zz ?_ _ | refine zj ?_ | refine zq ?_ _));exact BK101.out) hb);have n1_ := qq.mk (zv (by repeat (first | (with_reducible first | exact HB.out | apply qj | apply qz | apply qk | refine qx ?_ GE101.out) | exact HB.out)) hb);clear BK101;clear HB;have BK101 := n0_;have HB := n1_;clear n0_ n1_;(try clear hb);(try clear hb2);(try clear hk);(try clear hi)))
            have n0_ := qq.mk (zj BK101.out)
            have n1_ := qq.mk (qk HB.out)
            clear BK101
            clear HB
            have BK101 := n0_
            have HB := n1_
            clear n0_ n1_
            refine start_ (n := 10) (S := fun w' => True) (ds := []) #[false,false,false,false,false,false,false,false,false,false] (by kernel_rfl) rfl rfl trivial (fun hHeld => ?_);refine with_tabW kk.tab17 kk.bits17 (fun HT_ HW_ => ?_)
            generalize w63.drew = w64 at BK101 HB hHeld ⊢
            refine pure_ (i := 0) (N := some 53) (v := ?_) (a' := ?_) #[true,false,false,false,false,false,false,false,false,false] rfl rfl (any_of HT_.out (by kernel_rfl)) (fun _ _ _ h => h) (Or.inl ⟨by rfl,?_⟩) ?_ ?_
            rotate_left
            ·intro w'
             go_simp
             with_reducible rfl
            rotate_left
            ·simp only [Act.put,List.setIfInBounds_toArray,List.set_cons_zero,List.set_cons_succ,i64_w,i32_w]
             rfl
            refine pure_ (i := 1) (N := some 54) (v := ?_) (a' := ?_) #[true,true,false,false,false,false,false,false,false,false] rfl rfl (any_of HT_.out (by kernel_rfl)) (fun _ _ _ h => h) (Or.inl ⟨by rfl,?_⟩) ?_ ?_
            rotate_left
            ·intro w'
             go_simp
             with_reducible rfl
            rotate_left
            ·simp only [Act.put,List.setIfInBounds_toArray,List.set_cons_zero,List.set_cons_succ,i64_w,i32_w]
             rfl
            refine pure_ (i := 2) (N := some 55) (v := ?_) (a' := ?_) #[true,true,true,false,false,false,false,false,false,false] rfl rfl (any_of HT_.out (by kernel_rfl)) (fun _ _ _ h => h) (Or.inl ⟨by rfl,?_⟩) ?_ ?_
            rotate_left
            ·intro w'
             go_simp
             with_reducible rfl
            rotate_left
            ·simp only [Act.put,List.setIfInBounds_toArray,List.set_cons_zero,List.set_cons_succ,i64_w,i32_w]
             rfl
            refine pure_ (i := 6) (N := some 59) (v := ?_) (a' := ?_) #[true,true,true,false,false,false,true,false,false,false] rfl rfl (any_of HT_.out (by kernel_rfl)) (fun _ _ _ h => h) (Or.inl ⟨by rfl,?_⟩) ?_ ?_
            rotate_left
            ·intro w'
             go_simp
             with_reducible rfl
            rotate_left
            ·simp only [Act.put,List.setIfInBounds_toArray,List.set_cons_zero,List.set_cons_succ,i64_w,i32_w]
             rfl
            refine pure_ (i := 7) (N := some 60) (v := ?_) (a' := ?_) #[true,true,true,false,false,false,true,true,false,false] rfl rfl (any_of HT_.out (by kernel_rfl)) (fun _ _ _ h => h) (Or.inl ⟨by rfl,?_⟩) ?_ ?_
            rotate_left
            ·intro w'
             go_simp
             with_reducible rfl
            rotate_left
            ·simp only [Act.put,List.setIfInBounds_toArray,List.set_cons_zero,List.set_cons_succ,i64_w,i32_w]
             rfl
            refine one_ (i := 3) (N := some 56) #[true,true,true,true,false,false,true,true,false,false] rfl rfl (one_of HT_.out (by kernel_rfl)) (by decide) (fun K hK => ?_)
            refine goes_ Tryz.func57 (by kernel_rfl) rfl #[.int .u64 (IntKind.u64.wrap (Int.tdiv (IntKind.u64.wrap (a0_1)) 10000)),.int .i64 10] (by rfl) rfl rfl (by (try simp only [List.map_toArray,List.map_cons,List.map_nil]);first | done | rfl | (simp only [List.length_drop,List.length_take];rfl)) ?_
            with_reducible refine (qzz.calls (IntKind.u64.wrap (Int.tdiv (IntKind.u64.wrap (a0_1)) 10000)) 10 t110 _ ?tabw A52.out).mono ?_
            (case tabw => repeat (first | exact HTAB.out | exact TabW_below HTAB.out HB.out | (with_reducible refine TabW_drewN ?_ _) | (with_reducible refine TabW_drew ?_) | (with_reducible refine TabW_alloc ?_ _)))
            rintro e w65 ⟨rfl,hb⟩
            refine ⟨_,rfl,?_⟩
            have n0_ := qq.mk (jx (g := gb101) (o := .cells #[.int .i64 a0_0,.int .i64 a0_1,.string a0_2,.string a0_3] 28 (0,0)) (by (with_reducible repeat (first | refine zz ?_ _ | refine zj ?_ | refine zq ?_ _));exact BK101.out) hb)
            have n1_ := qq.mk (zv (by repeat (first | (with_reducible first | exact HB.out | apply qj | apply qz | apply qk | refine qx ?_ GE101.out) | exact HB.out)) hb)
            clear BK101
            clear HB
            have BK101 := n0_
            have HB := n1_
            clear n0_ n1_
            (try clear hb)
            (try clear hb2)
            (try clear hk)
            (try clear hi)
            refine hK.out _ _ trivial (fun hHeld => ?_)
            clear hK K
            refine norm_ (a' := ?_) ?_ ?_
            rotate_left
            ·show Act.put _ (some 56) _ = _
             simp only [Act.put,List.setIfInBounds_toArray,List.set_cons_zero,List.set_cons_succ,i64_w,i32_w]
             rfl
            refine pure_ (i := 4) (N := some 57) (v := ?_) (a' := ?_) #[true,true,true,true,true,false,true,true,false,false] rfl rfl (any_of HT_.out (by kernel_rfl)) (fun _ _ _ h => h) (Or.inl ⟨by rfl,?_⟩) ?_ ?_
            rotate_left
            ·intro w'
             go_simp
             with_reducible rfl
            rotate_left
            ·simp only [Act.put,List.setIfInBounds_toArray,List.set_cons_zero,List.set_cons_succ,i64_w,i32_w]
             rfl
            refine pure_ (i := 5) (N := some 58) (v := ?_) (a' := ?_) #[true,true,true,true,true,true,true,true,false,false] rfl rfl (any_of HT_.out (by kernel_rfl)) (fun _ _ _ h => h) (Or.inl ⟨by rfl,?_⟩) ?_ ?_
            rotate_left
            ·intro w'
             go_simp
             with_reducible rfl
            rotate_left
            ·simp only [Act.put,List.setIfInBounds_toArray,List.set_cons_zero,List.set_cons_succ,i64_w,i32_w]
             rfl
            refine pure_ (i := 8) (N := some 61) (v := ?_) (a' := ?_) #[true,true,true,true,true,true,true,true,true,false] rfl rfl (any_of HT_.out (by kernel_rfl)) (fun _ _ _ h => h) (Or.inl ⟨by rfl,?_⟩) ?_ ?_
            rotate_left
            ·intro w'
             go_simp
             with_reducible rfl
            rotate_left
            ·simp only [Act.put,List.setIfInBounds_toArray,List.set_cons_zero,List.set_cons_succ,i64_w,i32_w]
             rfl
            refine pure_ (i := 9) (N := some 2) (v := ?_) (a' := ?_) #[true,true,true,true,true,true,true,true,true,true] rfl rfl (any_of HT_.out (by kernel_rfl)) (fun _ _ _ h => h) (Or.inl ⟨by rfl,?_⟩) ?_ ?_
            rotate_left
            ·intro w'
             go_simp
             with_reducible rfl
            rotate_left
            ·simp only [Act.put,List.setIfInBounds_toArray,List.set_cons_zero,List.set_cons_succ,i64_w,i32_w]
             rfl
            refine done_ (done_of HT_.out (by kernel_rfl)) ?_
            try go_wp2
            go_ret
            exact ⟨by first | rfl | (simp [*,jk,jj] <;> rfl),by repeat (first | (with_reducible first | exact HB.out | apply qj | apply qz | apply qk | refine qx ?_ GE101.out) | exact HB.out)⟩
           ·rw [if_neg c56] at H
            exact absurd H (by simp)
          ·rw [if_neg c55] at H
           exact absurd H (by simp)
         ·rw [if_neg c54] at H
          exact absurd H (by simp)
        ·rw [if_neg c53] at H
         exact absurd H (by simp)
      ·rw [if_neg c34] at H
       have c34b0 : (a0_0 == 5) = false := beq_eq_false_iff_ne.mpr c34
       have c34b1 : (a0_0 != 5) = true := bne_iff_ne.mpr c34
       by_cases c66 : a0_0 = 6
       ·rw [if_pos c66] at H
        have c66b0 : (a0_0 == 6) = true := beq_iff_eq.mpr c66
        have c66b1 : (a0_0 != 6) = false := bne_eq_false_iff_eq.mpr c66
        clear c66
        have H' := qq.mk H
        clear H
        go_enter Tryz.func25,Tryz.ntmps25
        go_wp2_with (first | ((with_reducible refine gate_dst (N := 1) rfl ?_);refine box_event ?hg (N := 1) ?hd (cs := #[.int .i64 a0_0,.int .i64 a0_1,.string a0_2,.string a0_3]) (t := 28) ?hr ?_;(case hd => rfl);(case hg => rfl);(case hr => first | (go_simp;done) | (go_simp;rfl));intro gb101 hg w67 hbox hb;have n0_ := qq.mk (zv (by repeat (first | (with_reducible first | exact HB.out | apply qj | apply qz | apply qk) | exact HB.out)) hb);have n1_ := qq.mk (hbox);have n2_ := qq.mk ((by rw [hg];exact (zw (by repeat (first | (with_reducible first | exact HB.out | apply qj | apply qz | apply qk) | exact HB.out))) : w.heap.size ≤ gb101));have n3_ := qq.mk ((by rw [hg];exact (zw (by repeat (first | (with_reducible first | exact HB.out | apply qj | apply qz | apply qk) | exact HB.out))) : w.heap.size ≤ gb101));clear HB;have HB := n0_;have BK101 := n1_;have GW101 := n2_;have GE101 := n3_;clear n0_ n1_ n2_ n3_;clear hb hbox hg;have hcz68_0 : w67.cell? ⟨gb101,0,none⟩ = some (.int .i64 a0_0) := (qw BK101.out 0).trans rfl;have hcz68_1 : w67.cell? ⟨gb101,1,none⟩ = some (.int .i64 a0_1) := (qw BK101.out 1).trans rfl;have hcz68_2 : w67.cell? ⟨gb101,2,none⟩ = some (.string a0_2) := (qw BK101.out 2).trans rfl;have hcz68_3 : w67.cell? ⟨gb101,3,none⟩ = some (.string a0_3) := (qw BK101.out 3).trans rfl;have hfz68_0 := qv BK101.out 0;have hfz68_1 := qv BK101.out 1;have hfz68_2 := qv BK101.out 2;have hfz68_3 := qv BK101.out 3) | ((with_reducible refine jv (f := 52) rfl ?_);refine goesL_ (some 10) rfl rfl Tryz.func52 (by kernel_rfl) rfl #[.agg #[.int .i64 a0_0,.int .i64 a0_1,.string a0_2,.string a0_3]] rfl (by (try simp only [List.map_toArray,List.map_cons,List.map_nil]);first | done | rfl | (simp only [List.length_drop,List.length_take];rfl)) ?_;(with_reducible refine (kv.calls k a0_0 a0_1 a0_2 a0_3 true _ A2.out).mono ?_);rintro e w69 ⟨rfl,hb⟩;refine ⟨_,rfl,?_⟩;have n0_ := qq.mk (jx (g := gb101) (o := .cells #[.int .i64 a0_0,.int .i64 a0_1,.string a0_2,.string a0_3] 28 (0,0)) (by (with_reducible repeat (first | refine zz ?_ _ | refine zj ?_ | refine zq ?_ _));exact BK101.out) hb);have n1_ := qq.mk (zv (by repeat (first | (with_reducible first | exact HB.out | apply qj | apply qz | apply qk | refine qx ?_ GE101.out) | exact HB.out)) hb);clear BK101;clear HB;have BK101 := n0_;have HB := n1_;clear n0_ n1_;(try clear hb);(try clear hb2);(try clear hk);(try clear hi);have hcz70_0 : w69.cell? ⟨gb101,0,none⟩ = some (.int .i64 a0_0) := (qw BK101.out 0).trans rfl;have hcz70_1 : w69.cell? ⟨gb101,1,none⟩ = some (.int .i64 a0_1) := (qw BK101.out 1).trans rfl;have hcz70_2 : w69.cell? ⟨gb101,2,none⟩ = some (.string a0_2) := (qw BK101.out 2).trans rfl;have hcz70_3 : w69.cell? ⟨gb101,3,none⟩ = some (.string a0_3) := (qw BK101.out 3).trans rfl;have hfz70_0 := qv BK101.out 0;have hfz70_1 := qv BK101.out 1;have hfz70_2 := qv BK101.out 2;have hfz70_3 := qv BK101.out 3))
        go_loopg [7,8] k (fun kq v7 v8 w' => ∃ (x7_1 : ByteArray) (x8_1 : Int),v7 = .string x7_1 ∧ v8 = .int .i64 x8_1 ∧ qq (kk.l0 kq (wrap64 (Int.tdiv a0_1 64)) x7_1 x8_1 a0_0 a0_1 a0_2 a0_3 = some r) ∧ qq (kq ≤ k) ∧ qq (w'.heap[gb101]? = some (.cells #[.int .i64 a0_0,.int .i64 a0_1,.string a0_2,.string a0_3] 28 (0,0))) ∧ qq (Below w.heap.size w w'))
        case atStart => exact ⟨((⟨#[]⟩ : ByteArray)),(24),(by first | rfl | (simp;done) | (simp [*];done)),(by first | rfl | (simp;done) | (simp [*];done)),H',⟨Nat.le_refl _⟩,⟨by (with_reducible repeat (first | refine zz ?_ _ | refine zj ?_ | refine zq ?_ _));exact BK101.out⟩,⟨by repeat (first | (with_reducible first | exact HB.out | apply qj | apply qz | apply qk | refine qx ?_ GE101.out) | exact HB.out)⟩⟩
        case round =>
         clear H'
         try clear c1
         try clear c2
         try clear p2
         try clear c3
         try clear c4
         try clear c5
         try clear c6
         try clear p6
         try clear c10
         try clear c10b0
         try clear c10b1
         try clear c17
         try clear c17b0
         try clear c17b1
         try clear c24
         try clear c24b0
         try clear c24b1
         try clear c25
         try clear c25b0
         try clear c25b1
         try clear c25b2
         try clear c27
         try clear c27b0
         try clear c27b1
         try clear c27b2
         try clear c34
         try clear c34b0
         try clear c34b1
         try clear c35
         try clear c35b0
         try clear c38
         try clear c38b0
         try clear c38b1
         try clear c38b2
         try clear c39
         try clear c39b0
         try clear c39b1
         try clear c39b2
         try clear c40
         try clear c40b0
         try clear c40b1
         try clear c41
         try clear c41b0
         try clear c41b1
         try clear c41b2
         try clear c52
         try clear c53
         try clear c53b0
         try clear c53b1
         try clear c53b2
         try clear c54
         try clear c54b0
         try clear c54b1
         try clear c54b2
         try clear c55
         try clear c55b0
         try clear c55b1
         try clear c56
         try clear c56b0
         try clear c56b1
         try clear c56b2
         try clear c57
         try clear p64
         try clear c66
         try clear c66b0
         try clear c66b1
         try clear hcz13_0
         try clear hcz13_1
         try clear hcz13_2
         try clear hcz13_3
         try clear hcz15_0
         try clear hcz15_1
         try clear hcz15_2
         try clear hcz15_3
         try clear hcz20_0
         try clear hcz20_1
         try clear hcz20_2
         try clear hcz20_3
         try clear hcz22_0
         try clear hcz22_1
         try clear hcz22_2
         try clear hcz22_3
         try clear hcz29_0
         try clear hcz29_1
         try clear hcz29_2
         try clear hcz29_3
         try clear hcz31_0
         try clear hcz31_1
         try clear hcz31_2
         try clear hcz31_3
         try clear hcz43_0
         try clear hcz43_1
         try clear hcz43_2
         try clear hcz43_3
         try clear hcz45_0
         try clear hcz45_1
         try clear hcz45_2
         try clear hcz45_3
         try clear hcz47_0
         try clear hcz47_1
         try clear hcz47_2
         try clear hcz47_3
         try clear hcz58_0
         try clear hcz58_1
         try clear hcz58_2
         try clear hcz58_3
         try clear hcz60_0
         try clear hcz60_1
         try clear hcz60_2
         try clear hcz60_3
         try clear hcz62_0
         try clear hcz62_1
         try clear hcz62_2
         try clear hcz62_3
         try clear hcz68_0
         try clear hcz68_1
         try clear hcz68_2
         try clear hcz68_3
         try clear hcz70_0
         try clear hcz70_1
         try clear hcz70_2
         try clear hcz70_3
         try clear hfz13_0
         try clear hfz13_1
         try clear hfz13_2
         try clear hfz13_3
         try clear hfz15_0
         try clear hfz15_1
         try clear hfz15_2
         try clear hfz15_3
         try clear hfz20_0
         try clear hfz20_1
         try clear hfz20_2
         try clear hfz20_3
         try clear hfz22_0
         try clear hfz22_1
         try clear hfz22_2
         try clear hfz22_3
         try clear hfz29_0
         try clear hfz29_1
         try clear hfz29_2
         try clear hfz29_3
         try clear hfz31_0
         try clear hfz31_1
         try clear hfz31_2
         try clear hfz31_3
         try clear hfz43_0
         try clear hfz43_1
         try clear hfz43_2
         try clear hfz43_3
         try clear hfz45_0
         try clear hfz45_1
         try clear hfz45_2
         try clear hfz45_3
         try clear hfz47_0
         try clear hfz47_1
         try clear hfz47_2
         try clear hfz47_3
         try clear hfz58_0
         try clear hfz58_1
         try clear hfz58_2
         try clear hfz58_3
         try clear hfz60_0
         try clear hfz60_1
         try clear hfz60_2
         try clear hfz60_3
         try clear hfz62_0
         try clear hfz62_1
         try clear hfz62_2
         try clear hfz62_3
         try clear hfz68_0
         try clear hfz68_1
         try clear hfz68_2
         try clear hfz68_3
         try clear hfz70_0
         try clear hfz70_1
         try clear hfz70_2
         try clear hfz70_3
         obtain ⟨x7_1,x8_1,rfl,rfl,HA,HK1,BK101,HB⟩ := hrel
         cases gk with
         | zero => exact absurd HA.out (by simp [kk.l0])
         | succ k1 =>
          have H := HA.out
          clear HA
          simp only [kk.l0] at H
          by_cases c71 : x8_1 ≥ 0
          ·rw [if_pos c71] at H
           have c71b0 : decide (0 ≤ x8_1) = true := decide_eq_true c71
           clear c71
           by_cases c72 : 0 ≤ x8_1
           ·rw [if_pos c72] at H
            have c72b0 := eq_true c72
            have c72b1 : decide (0 ≤ x8_1) = true := decide_eq_true c72
            clear c72
            obtain ⟨ji73,hji73⟩ : ∃ j_ : Int,(shr .i64 (wrap64 (Int.tdiv a0_1 64)) x8_1) = j_ := ⟨_,rfl⟩
            replace H : ((strconv_Itoa.f (Go.bits .and .i64 (ji73) 255)).bind fun t111 => (if t111.size + 1 ≤ 9223372036854775807 then (if x7_1.size + (t111 ++ (⟨#[46]⟩ : ByteArray)).size ≤ 9223372036854775807 then (kk.l0 k1 (wrap64 (Int.tdiv a0_1 64)) (x7_1 ++ (t111 ++ (⟨#[46]⟩ : ByteArray))) (wrap64 (x8_1 - 8)) a0_0 a0_1 a0_2 a0_3) else (none)) else (none))) = some r := by first | (rw [hji73] at H;exact H) | (simp only [hji73] at H ⊢;exact H)
            have hji73_ : ((wrap64 (Int.tdiv a0_1 64)) / 2 ^ min x8_1.toNat 64) = ji73 := hji73
            have hji73z : x8_1 ≤ 64 → ((wrap64 (Int.tdiv a0_1 64)) / 2 ^ x8_1.toNat) = ji73 := shr_small hji73
            replace H := Option.bind_eq_some_iff.mp H
            obtain ⟨t111,A740,H⟩ := H
            replace H : (if t111.size + 1 ≤ 9223372036854775807 then (if x7_1.size + (t111 ++ (⟨#[46]⟩ : ByteArray)).size ≤ 9223372036854775807 then (kk.l0 k1 (wrap64 (Int.tdiv a0_1 64)) (x7_1 ++ (t111 ++ (⟨#[46]⟩ : ByteArray))) (wrap64 (x8_1 - 8)) a0_0 a0_1 a0_2 a0_3) else (none)) else (none)) = some r := H
            have A74 := qq.mk A740
            clear A740
            by_cases c75 : t111.size + 1 ≤ 9223372036854775807
            ·rw [if_pos c75] at H
             have c75b0 := eq_true c75
             have c75b1 : decide (t111.size + 1 ≤ 9223372036854775807) = true := decide_eq_true c75
             try have c75b2 : (9223372036854775807 < t111.size + 1) = False := eq_false (Nat.not_lt.2 c75)
             by_cases c76 : x7_1.size + (t111 ++ (⟨#[46]⟩ : ByteArray)).size ≤ 9223372036854775807
             ·rw [if_pos c76] at H
              have c76b0 := eq_true c76
              have c76b1 : decide (x7_1.size + (t111 ++ (⟨#[46]⟩ : ByteArray)).size ≤ 9223372036854775807) = true := decide_eq_true c76
              try have c76b2 : (9223372036854775807 < x7_1.size + (t111 ++ (⟨#[46]⟩ : ByteArray)).size) = False := eq_false (Nat.not_lt.2 c76)
              try (have c76b9 := c76b2;simp only [ByteArray.size_append,show (⟨#[46]⟩ : ByteArray).size = 1 from rfl] at c76b9)
              have H' := qq.mk H
              clear H
              go_wp2_with (first | ((with_reducible refine jv (f := 55) rfl ?_);refine goesL_ (some 76) rfl rfl Tryz.func55 (by kernel_rfl) rfl #[.int .i64 (Go.bits .and .i64 (ji73) 255)] rfl (by (try simp only [List.map_toArray,List.map_cons,List.map_nil]);first | done | (simp only [hji73];rfl) | rfl | (simp only [List.length_drop,List.length_take];rfl)) ?_;(with_reducible refine (strconv_Itoa.calls (Go.bits .and .i64 (ji73) 255) t111 _ ?tabw A74.out).mono ?_);(case tabw => repeat (first | exact HTAB.out | exact TabW_below HTAB.out HB.out | (with_reducible refine TabW_drewN ?_ _) | (with_reducible refine TabW_drew ?_) | (with_reducible refine TabW_alloc ?_ _)));rintro e w77 ⟨rfl,hb⟩;refine ⟨_,rfl,?_⟩;have n0_ := qq.mk (jx (g := gb101) (o := .cells #[.int .i64 a0_0,.int .i64 a0_1,.string a0_2,.string a0_3] 28 (0,0)) (by (with_reducible repeat (first | refine zz ?_ _ | refine zj ?_ | refine zq ?_ _));exact BK101.out) hb);have n1_ := qq.mk (zv (by repeat (first | (with_reducible first | exact HB.out | apply qj | apply qz | apply qk | refine qx ?_ GE101.out) | exact HB.out)) hb);clear BK101;clear HB;have BK101 := n0_;have HB := n1_;clear n0_ n1_;(try clear hb);(try clear hb2);(try clear hk);(try clear hi)))
              go_roundg k1
              case measure => have := HK1.out;omega
              case rel => exact ⟨(x7_1 ++ (t111 ++ (⟨#[46]⟩ : ByteArray))),(wrap64 (x8_1 - 8)),(by first | rfl | (simp;done) | (simp [*];done)),(by first | rfl | (simp;done) | (simp [*];done)),H',⟨by have := HK1.out;omega⟩,⟨by (with_reducible repeat (first | refine zz ?_ _ | refine zj ?_ | refine zq ?_ _));exact BK101.out⟩,⟨by repeat (first | (with_reducible first | exact HB.out | apply qj | apply qz | apply qk | refine qx ?_ GE101.out) | exact HB.out)⟩⟩
             ·rw [if_neg c76] at H
              exact absurd H (by simp)
            ·rw [if_neg c75] at H
             exact absurd H (by simp)
           ·rw [if_neg c72] at H
            exact absurd H (by simp)
          ·rw [if_neg c71] at H
           have c71b0 : decide (0 ≤ x8_1) = false := decide_eq_false c71
           clear c71
           obtain ⟨ji78,hji78⟩ : ∃ j_ : Int,(wrap64 ((x7_1.size : Int) - 1)) = j_ := ⟨_,rfl⟩
           replace H : (if 0 ≤ (ji78) then (if (ji78) ≤ (x7_1.size : Int) then (if (x7_1.extract 0 ((ji78) : Int).toNat).size + 1 ≤ 9223372036854775807 then ((strconv_Itoa.f (Int.tmod a0_1 64)).bind fun t112 => (if ((x7_1.extract 0 ((ji78) : Int).toNat) ++ (⟨#[47]⟩ : ByteArray)).size + t112.size ≤ 9223372036854775807 then (some (((x7_1.extract 0 ((ji78) : Int).toNat) ++ (⟨#[47]⟩ : ByteArray)) ++ t112)) else (none))) else (none)) else (none)) else (none)) = some r := by first | (rw [hji78] at H;exact H) | (simp only [hji78] at H ⊢;exact H)
           have hji78w : (IntKind.i64.wrap ((x7_1.size : Int) - 1)) = ji78 := (i64_w _).trans hji78
           by_cases c79 : 0 ≤ (ji78)
           ·rw [if_pos c79] at H
            have c79b0 := eq_true c79
            have c79b1 : decide (0 ≤ (ji78)) = true := decide_eq_true c79
            clear c79
            by_cases c80 : (ji78) ≤ (x7_1.size : Int)
            ·rw [if_pos c80] at H
             have c80b0 := eq_true c80
             have c80b1 : decide ((ji78) ≤ (x7_1.size : Int)) = true := decide_eq_true c80
             clear c80
             by_cases c81 : (x7_1.extract 0 ((ji78) : Int).toNat).size + 1 ≤ 9223372036854775807
             ·rw [if_pos c81] at H
              have c81b0 := eq_true c81
              have c81b1 : decide ((x7_1.extract 0 ((ji78) : Int).toNat).size + 1 ≤ 9223372036854775807) = true := decide_eq_true c81
              try have c81b2 : (9223372036854775807 < (x7_1.extract 0 ((ji78) : Int).toNat).size + 1) = False := eq_false (Nat.not_lt.2 c81)
              have c81b5 : (9223372036854775807 < ji78.toNat + 1) = False := eq_false (by
               have e_ := c81
               have e1_ : (ji78 : Int).toNat ≤ x7_1.size := by
                have e2_ := of_eq_true c80b0
                clear hji78 hji78w
                omega
               simp only [ByteArray.size_append,ByteArray.size_extract,Nat.min_eq_left e1_,Nat.sub_zero,Nat.min_self,show (⟨#[46]⟩ : ByteArray).size = 1 from rfl,show (⟨#[47]⟩ : ByteArray).size = 1 from rfl] at e_
               exact Nat.not_lt.2 e_)
              replace H := Option.bind_eq_some_iff.mp H
              obtain ⟨t112,A820,H⟩ := H
              replace H : (if ((x7_1.extract 0 ((ji78) : Int).toNat) ++ (⟨#[47]⟩ : ByteArray)).size + t112.size ≤ 9223372036854775807 then (some (((x7_1.extract 0 ((ji78) : Int).toNat) ++ (⟨#[47]⟩ : ByteArray)) ++ t112)) else (none)) = some r := H
              have A82 := qq.mk A820
              clear A820
              by_cases c83 : ((x7_1.extract 0 ((ji78) : Int).toNat) ++ (⟨#[47]⟩ : ByteArray)).size + t112.size ≤ 9223372036854775807
              ·rw [if_pos c83] at H
               have c83b0 := eq_true c83
               have c83b1 : decide (((x7_1.extract 0 ((ji78) : Int).toNat) ++ (⟨#[47]⟩ : ByteArray)).size + t112.size ≤ 9223372036854775807) = true := decide_eq_true c83
               try have c83b2 : (9223372036854775807 < ((x7_1.extract 0 ((ji78) : Int).toNat) ++ (⟨#[47]⟩ : ByteArray)).size + t112.size) = False := eq_false (Nat.not_lt.2 c83)
               have c83b5 : (9223372036854775807 < ji78.toNat + 1 + t112.size) = False := eq_false (by
                have e_ := c83
                have e1_ : (ji78 : Int).toNat ≤ x7_1.size := by
                 have e2_ := of_eq_true c80b0
                 clear hji78 hji78w
                 omega
                simp only [ByteArray.size_append,ByteArray.size_extract,Nat.min_eq_left e1_,Nat.sub_zero,Nat.min_self,show (⟨#[46]⟩ : ByteArray).size = 1 from rfl,show (⟨#[47]⟩ : ByteArray).size = 1 from rfl] at e_
                exact Nat.not_lt.2 e_)
               try (have c83b9 := c83b2;simp only [ByteArray.size_append,show (⟨#[47]⟩ : ByteArray).size = 1 from rfl] at c83b9)
               obtain rfl := Option.some.inj H
               try go_wp2
               have n0_ := qq.mk (zj BK101.out)
               have n1_ := qq.mk (qk HB.out)
               clear BK101
               clear HB
               have BK101 := n0_
               have HB := n1_
               clear n0_ n1_
               refine start_ (n := 12) (S := fun w' => w'.cell? ⟨gb101,0,none⟩ = some (.int .i64 a0_0) ∧ w'.cell? ⟨gb101,1,none⟩ = some (.int .i64 a0_1) ∧ w'.cell? ⟨gb101,2,none⟩ = some (.string a0_2) ∧ w'.cell? ⟨gb101,3,none⟩ = some (.string a0_3)) (ds := []) #[false,false,false,false,false,false,false,false,false,false,false,false] (by kernel_rfl) rfl rfl ⟨(qw BK101.out 0).trans rfl,(qw BK101.out 1).trans rfl,(qw BK101.out 2).trans rfl,(qw BK101.out 3).trans rfl⟩ (fun hHeld => ?_);refine with_tabW kk.tab25 kk.bits25 (fun HT_ HW_ => ?_)
               generalize wr.drew = w84 at BK101 HB hHeld ⊢
               refine pure_ (i := 0) (N := some 79) (v := ?_) (a' := ?_) #[true,false,false,false,false,false,false,false,false,false,false,false] rfl rfl (any_of HT_.out (by kernel_rfl)) (fun _ _ _ h => h) (Or.inl ⟨by rfl,?_⟩) ?_ ?_
               rotate_left
               ·intro w'
                go_simp
                with_reducible rfl
               rotate_left
               ·simp only [Act.put,List.setIfInBounds_toArray,List.set_cons_zero,List.set_cons_succ,i64_w,i32_w]
                rfl
               refine pure_ (i := 1) (N := some 80) (v := ?_) (a' := ?_) #[true,true,false,false,false,false,false,false,false,false,false,false] rfl rfl (any_of HT_.out (by kernel_rfl)) (fun _ _ _ h => h) (Or.inl ⟨by rfl,?_⟩) ?_ ?_
               rotate_left
               ·intro w'
                go_simp
                with_reducible rfl
               rotate_left
               ·simp only [Act.put,List.setIfInBounds_toArray,List.set_cons_zero,List.set_cons_succ,i64_w,i32_w]
                rfl
               refine pure_ (i := 2) (N := some 81) (v := ?_) (a' := ?_) #[true,true,true,false,false,false,false,false,false,false,false,false] rfl rfl (any_of HT_.out (by kernel_rfl)) (fun _ _ _ h => h) (Or.inl ⟨by rfl,?_⟩) ?_ ?_
               rotate_left
               ·intro w'
                go_simp
                with_reducible rfl
               rotate_left
               ·simp only [Act.put,List.setIfInBounds_toArray,List.set_cons_zero,List.set_cons_succ,i64_w,i32_w]
                rfl
               refine pure_ (i := 3) (N := some 82) (v := ?_) (a' := ?_) #[true,true,true,true,false,false,false,false,false,false,false,false] rfl rfl (any_of HT_.out (by kernel_rfl)) (fun _ _ _ h => h) (Or.inl ⟨by rfl,?_⟩) ?_ ?_
               rotate_left
               ·intro w'
                go_simp
                with_reducible rfl
               rotate_left
               ·simp only [Act.put,List.setIfInBounds_toArray,List.set_cons_zero,List.set_cons_succ,i64_w,i32_w]
                rfl
               refine pure_ (i := 4) (N := some 83) (v := ?_) (a' := ?_) #[true,true,true,true,true,false,false,false,false,false,false,false] rfl rfl (any_of HT_.out (by kernel_rfl)) (fun _ _ _ h => h) (Or.inl ⟨by rfl,?_⟩) ?_ ?_
               rotate_left
               ·intro w'
                go_simp
                with_reducible rfl
               rotate_left
               ·simp only [Act.put,List.setIfInBounds_toArray,List.set_cons_zero,List.set_cons_succ,i64_w,i32_w]
                rfl
               refine pure_ (i := 5) (N := some 84) (v := ?_) (a' := ?_) #[true,true,true,true,true,true,false,false,false,false,false,false] rfl rfl (any_of HT_.out (by kernel_rfl)) (fun _ _ _ h => h) (Or.inl ⟨by rfl,?_⟩) ?_ ?_
               rotate_left
               ·intro w'
                go_simp
                with_reducible rfl
               rotate_left
               ·simp only [Act.put,List.setIfInBounds_toArray,List.set_cons_zero,List.set_cons_succ,i64_w,i32_w]
                rfl
               refine pure_ (i := 6) (N := some 85) (v := ?_) (a' := ?_) #[true,true,true,true,true,true,true,false,false,false,false,false] rfl rfl (any_of HT_.out (by kernel_rfl)) (fun _ _ _ h => h) (Or.inl ⟨by rfl,?_⟩) ?_ ?_
               rotate_left
               ·intro w'
                go_simp
                with_reducible rfl
               rotate_left
               ·simp only [Act.put,List.setIfInBounds_toArray,List.set_cons_zero,List.set_cons_succ,i64_w,i32_w]
                rfl
               refine take_ (i := 7) (N := some 86) (v := ?_) (a' := ?_) #[true,true,true,true,true,true,true,true,false,false,false,false] rfl rfl (take_ofW HT_.out HW_.out (by kernel_rfl)) (fun _ _ _ h => h) (Or.inl ⟨by rfl,?_⟩) hHeld ?_ ?_
               rotate_left
               ·rintro w' ⟨s0,s1,s2,s3⟩
                go_simp
                with_reducible rfl
               rotate_left
               ·simp only [Act.put,List.setIfInBounds_toArray,List.set_cons_zero,List.set_cons_succ,i64_w,i32_w]
                rfl
               refine pure_ (i := 8) (N := some 87) (v := ?_) (a' := ?_) #[true,true,true,true,true,true,true,true,true,false,false,false] rfl rfl (any_of HT_.out (by kernel_rfl)) (fun _ _ _ h => h) (Or.inl ⟨by rfl,?_⟩) ?_ ?_
               rotate_left
               ·intro w'
                go_simp
                with_reducible rfl
               rotate_left
               ·simp only [Act.put,List.setIfInBounds_toArray,List.set_cons_zero,List.set_cons_succ,i64_w,i32_w]
                rfl
               refine one_ (i := 9) (N := some 88) #[true,true,true,true,true,true,true,true,true,true,false,false] rfl rfl (one_of HT_.out (by kernel_rfl)) (by decide) (fun K hK => ?_)
               refine goes_ Tryz.func55 (by kernel_rfl) rfl #[.int .i64 (Int.tmod a0_1 64)] (by rfl) rfl rfl (by (try simp only [List.map_toArray,List.map_cons,List.map_nil]);first | done | rfl | (simp only [List.length_drop,List.length_take];rfl)) ?_
               with_reducible refine (strconv_Itoa.calls (Int.tmod a0_1 64) t112 _ ?tabw A82.out).mono ?_
               (case tabw => repeat (first | exact HTAB.out | exact TabW_below HTAB.out HB.out | (with_reducible refine TabW_drewN ?_ _) | (with_reducible refine TabW_drew ?_) | (with_reducible refine TabW_alloc ?_ _)))
               rintro e w85 ⟨rfl,hb⟩
               refine ⟨_,rfl,?_⟩
               have n0_ := qq.mk (jx (g := gb101) (o := .cells #[.int .i64 a0_0,.int .i64 a0_1,.string a0_2,.string a0_3] 28 (0,0)) (by (with_reducible repeat (first | refine zz ?_ _ | refine zj ?_ | refine zq ?_ _));exact BK101.out) hb)
               have n1_ := qq.mk (zv (by repeat (first | (with_reducible first | exact HB.out | apply qj | apply qz | apply qk | refine qx ?_ GE101.out) | exact HB.out)) hb)
               clear BK101
               clear HB
               have BK101 := n0_
               have HB := n1_
               clear n0_ n1_
               (try clear hb)
               (try clear hb2)
               (try clear hk)
               (try clear hi)
               refine hK.out _ _ ⟨(qw BK101.out 0).trans rfl,(qw BK101.out 1).trans rfl,(qw BK101.out 2).trans rfl,(qw BK101.out 3).trans rfl⟩ (fun hHeld => ?_)
               clear hK K
               refine norm_ (a' := ?_) ?_ ?_
               rotate_left
               ·show Act.put _ (some 88) _ = _
                simp only [Act.put,List.setIfInBounds_toArray,List.set_cons_zero,List.set_cons_succ,i64_w,i32_w]
                rfl
               refine pure_ (i := 10) (N := some 89) (v := ?_) (a' := ?_) #[true,true,true,true,true,true,true,true,true,true,true,false] rfl rfl (any_of HT_.out (by kernel_rfl)) (fun _ _ _ h => h) (Or.inl ⟨by rfl,?_⟩) ?_ ?_
               rotate_left
               ·intro w'
                go_simp
                with_reducible rfl
               rotate_left
               ·simp only [Act.put,List.setIfInBounds_toArray,List.set_cons_zero,List.set_cons_succ,i64_w,i32_w]
                rfl
               refine pure_ (i := 11) (N := some 2) (v := ?_) (a' := ?_) #[true,true,true,true,true,true,true,true,true,true,true,true] rfl rfl (any_of HT_.out (by kernel_rfl)) (fun _ _ _ h => h) (Or.inl ⟨by rfl,?_⟩) ?_ ?_
               rotate_left
               ·intro w'
                go_simp
                with_reducible rfl
               rotate_left
               ·simp only [Act.put,List.setIfInBounds_toArray,List.set_cons_zero,List.set_cons_succ,i64_w,i32_w]
                rfl
               refine done_ (done_of HT_.out (by kernel_rfl)) ?_
               try go_wp2
               go_ret
               exact ⟨by first | rfl | (simp [jk,jj] <;> rfl) | (simp only [← hji78];first | rfl | (simp [jk,jj] <;> rfl)) | (simp [*,jk,jj] <;> rfl),by repeat (first | (with_reducible first | exact HB.out | apply qj | apply qz | apply qk | refine qx ?_ GE101.out) | exact HB.out)⟩
              ·rw [if_neg c83] at H
               exact absurd H (by simp)
             ·rw [if_neg c81] at H
              exact absurd H (by simp)
            ·rw [if_neg c80] at H
             exact absurd H (by simp)
           ·rw [if_neg c79] at H
            exact absurd H (by simp)
       ·rw [if_neg c66] at H
        have c66b0 : (a0_0 == 6) = false := beq_eq_false_iff_ne.mpr c66
        have c66b1 : (a0_0 != 6) = true := bne_iff_ne.mpr c66
        replace H := Option.bind_eq_some_iff.mp H
        obtain ⟨t113,A860,H⟩ := H
        replace H : (if 1 + t113.size ≤ 9223372036854775807 then (some ((⟨#[64]⟩ : ByteArray) ++ t113)) else (none)) = some r := H
        have A86 := qq.mk A860
        clear A860
        by_cases c87 : 1 + t113.size ≤ 9223372036854775807
        ·rw [if_pos c87] at H
         have c87b0 := eq_true c87
         have c87b1 : decide (1 + t113.size ≤ 9223372036854775807) = true := decide_eq_true c87
         try have c87b2 : (9223372036854775807 < 1 + t113.size) = False := eq_false (Nat.not_lt.2 c87)
         obtain rfl := Option.some.inj H
         go_enter Tryz.func25,Tryz.ntmps25
         go_wp2_with (first | ((with_reducible refine gate_dst (N := 1) rfl ?_);refine box_event ?hg (N := 1) ?hd (cs := #[.int .i64 a0_0,.int .i64 a0_1,.string a0_2,.string a0_3]) (t := 28) ?hr ?_;(case hd => rfl);(case hg => rfl);(case hr => first | (go_simp;done) | (go_simp;rfl));intro gb101 hg w88 hbox hb;have n0_ := qq.mk (zv (by repeat (first | (with_reducible first | exact HB.out | apply qj | apply qz | apply qk) | exact HB.out)) hb);have n1_ := qq.mk (hbox);have n2_ := qq.mk ((by rw [hg];exact (zw (by repeat (first | (with_reducible first | exact HB.out | apply qj | apply qz | apply qk) | exact HB.out))) : w.heap.size ≤ gb101));have n3_ := qq.mk ((by rw [hg];exact (zw (by repeat (first | (with_reducible first | exact HB.out | apply qj | apply qz | apply qk) | exact HB.out))) : w.heap.size ≤ gb101));clear HB;have HB := n0_;have BK101 := n1_;have GW101 := n2_;have GE101 := n3_;clear n0_ n1_ n2_ n3_;clear hb hbox hg;have hcz89_0 : w88.cell? ⟨gb101,0,none⟩ = some (.int .i64 a0_0) := (qw BK101.out 0).trans rfl;have hcz89_1 : w88.cell? ⟨gb101,1,none⟩ = some (.int .i64 a0_1) := (qw BK101.out 1).trans rfl;have hcz89_2 : w88.cell? ⟨gb101,2,none⟩ = some (.string a0_2) := (qw BK101.out 2).trans rfl;have hcz89_3 : w88.cell? ⟨gb101,3,none⟩ = some (.string a0_3) := (qw BK101.out 3).trans rfl;have hfz89_0 := qv BK101.out 0;have hfz89_1 := qv BK101.out 1;have hfz89_2 := qv BK101.out 2;have hfz89_3 := qv BK101.out 3) | ((with_reducible refine jv (f := 52) rfl ?_);refine goesL_ (some 10) rfl rfl Tryz.func52 (by kernel_rfl) rfl #[.agg #[.int .i64 a0_0,.int .i64 a0_1,.string a0_2,.string a0_3]] rfl (by (try simp only [List.map_toArray,List.map_cons,List.map_nil]);first | done | rfl | (simp only [List.length_drop,List.length_take];rfl)) ?_;(with_reducible refine (kv.calls k a0_0 a0_1 a0_2 a0_3 true _ A2.out).mono ?_);rintro e w90 ⟨rfl,hb⟩;refine ⟨_,rfl,?_⟩;have n0_ := qq.mk (jx (g := gb101) (o := .cells #[.int .i64 a0_0,.int .i64 a0_1,.string a0_2,.string a0_3] 28 (0,0)) (by (with_reducible repeat (first | refine zz ?_ _ | refine zj ?_ | refine zq ?_ _));exact BK101.out) hb);have n1_ := qq.mk (zv (by repeat (first | (with_reducible first | exact HB.out | apply qj | apply qz | apply qk | refine qx ?_ GE101.out) | exact HB.out)) hb);clear BK101;clear HB;have BK101 := n0_;have HB := n1_;clear n0_ n1_;(try clear hb);(try clear hb2);(try clear hk);(try clear hi);have hcz91_0 : w90.cell? ⟨gb101,0,none⟩ = some (.int .i64 a0_0) := (qw BK101.out 0).trans rfl;have hcz91_1 : w90.cell? ⟨gb101,1,none⟩ = some (.int .i64 a0_1) := (qw BK101.out 1).trans rfl;have hcz91_2 : w90.cell? ⟨gb101,2,none⟩ = some (.string a0_2) := (qw BK101.out 2).trans rfl;have hcz91_3 : w90.cell? ⟨gb101,3,none⟩ = some (.string a0_3) := (qw BK101.out 3).trans rfl;have hfz91_0 := qv BK101.out 0;have hfz91_1 := qv BK101.out 1;have hfz91_2 := qv BK101.out 2;have hfz91_3 := qv BK101.out 3) | ((with_reducible refine jv (f := 55) rfl ?_);refine goesL_ (some 92) rfl rfl Tryz.func55 (by kernel_rfl) rfl #[.int .i64 a0_1] rfl (by (try simp only [List.map_toArray,List.map_cons,List.map_nil]);first | done | rfl | (simp only [List.length_drop,List.length_take];rfl)) ?_;(with_reducible refine (strconv_Itoa.calls a0_1 t113 _ ?tabw A86.out).mono ?_);(case tabw => repeat (first | exact HTAB.out | exact TabW_below HTAB.out HB.out | (with_reducible refine TabW_drewN ?_ _) | (with_reducible refine TabW_drew ?_) | (with_reducible refine TabW_alloc ?_ _)));rintro e w92 ⟨rfl,hb⟩;refine ⟨_,rfl,?_⟩;have n0_ := qq.mk (jx (g := gb101) (o := .cells #[.int .i64 a0_0,.int .i64 a0_1,.string a0_2,.string a0_3] 28 (0,0)) (by (with_reducible repeat (first | refine zz ?_ _ | refine zj ?_ | refine zq ?_ _));exact BK101.out) hb);have n1_ := qq.mk (zv (by repeat (first | (with_reducible first | exact HB.out | apply qj | apply qz | apply qk | refine qx ?_ GE101.out) | exact HB.out)) hb);clear BK101;clear HB;have BK101 := n0_;have HB := n1_;clear n0_ n1_;(try clear hb);(try clear hb2);(try clear hk);(try clear hi)))
         go_ret
         exact ⟨by first | rfl | (simp [*,jk,jj] <;> rfl),by repeat (first | (with_reducible first | exact HB.out | apply qj | apply qz | apply qk | refine qx ?_ GE101.out) | exact HB.out)⟩
        ·rw [if_neg c87] at H
         exact absurd H (by simp)
 ·replace c3 := Bool.eq_false_iff.mpr c3
  subst c3
  have H1 : (some (⟨#[]⟩ : ByteArray)) = some r := by rw [if_neg (show ¬ (false = true) by decide)] at H;exact H
  clear H
  have H := H1
  clear H1
  obtain rfl := Option.some.inj H
  go_enter Tryz.func25,Tryz.ntmps25
  go_wp2_with (first | ((with_reducible refine gate_dst (N := 1) rfl ?_);refine box_event ?hg (N := 1) ?hd (cs := #[.int .i64 a0_0,.int .i64 a0_1,.string a0_2,.string a0_3]) (t := 28) ?hr ?_;(case hd => rfl);(case hg => rfl);(case hr => first | (go_simp;done) | (go_simp;rfl));intro gb101 hg w93 hbox hb;have n0_ := qq.mk (zv (by repeat (first | (with_reducible first | exact HB.out | apply qj | apply qz | apply qk) | exact HB.out)) hb);have n1_ := qq.mk (hbox);have n2_ := qq.mk ((by rw [hg];exact (zw (by repeat (first | (with_reducible first | exact HB.out | apply qj | apply qz | apply qk) | exact HB.out))) : w.heap.size ≤ gb101));have n3_ := qq.mk ((by rw [hg];exact (zw (by repeat (first | (with_reducible first | exact HB.out | apply qj | apply qz | apply qk) | exact HB.out))) : w.heap.size ≤ gb101));clear HB;have HB := n0_;have BK101 := n1_;have GW101 := n2_;have GE101 := n3_;clear n0_ n1_ n2_ n3_;clear hb hbox hg;have hcz94_0 : w93.cell? ⟨gb101,0,none⟩ = some (.int .i64 a0_0) := (qw BK101.out 0).trans rfl;have hcz94_1 : w93.cell? ⟨gb101,1,none⟩ = some (.int .i64 a0_1) := (qw BK101.out 1).trans rfl;have hcz94_2 : w93.cell? ⟨gb101,2,none⟩ = some (.string a0_2) := (qw BK101.out 2).trans rfl;have hcz94_3 : w93.cell? ⟨gb101,3,none⟩ = some (.string a0_3) := (qw BK101.out 3).trans rfl;have hfz94_0 := qv BK101.out 0;have hfz94_1 := qv BK101.out 1;have hfz94_2 := qv BK101.out 2;have hfz94_3 := qv BK101.out 3) | ((with_reducible refine jv (f := 52) rfl ?_);refine goesL_ (some 10) rfl rfl Tryz.func52 (by kernel_rfl) rfl #[.agg #[.int .i64 a0_0,.int .i64 a0_1,.string a0_2,.string a0_3]] rfl (by (try simp only [List.map_toArray,List.map_cons,List.map_nil]);first | done | rfl | (simp only [List.length_drop,List.length_take];rfl)) ?_;(with_reducible refine (kv.calls k a0_0 a0_1 a0_2 a0_3 false _ A2.out).mono ?_);rintro e w95 ⟨rfl,hb⟩;refine ⟨_,rfl,?_⟩;have n0_ := qq.mk (jx (g := gb101) (o := .cells #[.int .i64 a0_0,.int .i64 a0_1,.string a0_2,.string a0_3] 28 (0,0)) (by (with_reducible repeat (first | refine zz ?_ _ | refine zj ?_ | refine zq ?_ _));exact BK101.out) hb);have n1_ := qq.mk (zv (by repeat (first | (with_reducible first | exact HB.out | apply qj | apply qz | apply qk | refine qx ?_ GE101.out) | exact HB.out)) hb);clear BK101;clear HB;have BK101 := n0_;have HB := n1_;clear n0_ n1_;(try clear hb);(try clear hb2);(try clear hk);(try clear hi)))
  go_ret
  exact ⟨by first | rfl | (simp [*,jk,jj] <;> rfl),by repeat (first | (with_reducible first | exact HB.out | apply qj | apply qz | apply qk | refine qx ?_ GE101.out) | exact HB.out)⟩
def opAt (n : Int) : ByteArray := opWords.getD (n - 1).toNat ⟨#[]⟩
def termB (l : ByteArray) (n : Int) (t : ByteArray) : ByteArray := (((l ++ (⟨#[32]⟩ : ByteArray)) ++ opAt n) ++ (⟨#[32]⟩ : ByteArray)) ++ t
def kx.f (k : Nat) (a0_0 : ByteArray) (a0_1 : Int) (a0_2 : ByteArray) (a0_3 : Int) (a0_4 : Int) (a0_5 : ByteArray) (a0_6 : ByteArray) : Option ByteArray :=
 (vz.f k a0_0 a0_1 a0_2 a0_3 a0_4 a0_5 a0_6).bind fun g => if g = true then ((kk.f k a0_3 a0_4 a0_5 a0_6).bind fun t => if 1 ≤ a0_1 ∧ a0_1 ≤ 4 ∧ a0_0.size ≤ 1000000000 ∧ t.size ≤ 1000000000 then some (termB a0_0 a0_1 t) else none) else some ⟨#[]⟩
theorem opAt_size (n : Int) : (opAt n).size ≤ 2 := by
 unfold opAt
 have : ∀ j : Nat,(opWords.getD j ⟨#[]⟩).size ≤ 2 := fun j => by
  match j with
  | 0 => decide
  | 1 => decide
  | 2 => decide
  | 3 => decide
  | j + 4 => exact Nat.zero_le _
 exact this _
set_option maxHeartbeats 4000000 in
set_option maxRecDepth 100000 in
theorem kx.calls (k : Nat) (a0_0 : ByteArray) (a0_1 : Int) (a0_2 : ByteArray) (a0_3 : Int) (a0_4 : Int) (a0_5 : ByteArray) (a0_6 : ByteArray) (r : ByteArray) (w : World) (htab : TabW w) (h : kx.f k a0_0 a0_1 a0_2 a0_3 a0_4 a0_5 a0_6 = some r) :
  Calls Tryz.prog 9 #[.agg #[.string a0_0,.int .i64 a0_1,.string a0_2,.int .i64 a0_3,.int .i64 a0_4,.string a0_5,.string a0_6]] w fun e w' => e = .returned (.string r) ∧ Below w.heap.size w w' := by
 have HTAB := qq.mk htab
 clear htab
 obtain ⟨g,hg,h⟩ := Option.bind_eq_some_iff.mp h
 have HG := qq.mk hg
 clear hg
 have hu30 := Tryz.underlying30
 have hu28 := Tryz.underlying28
 have hal := fun (o : Obj) => qj (Below.refl w.heap.size w) o
 cases g with
 | false =>
  rw [if_neg (by decide)] at h
  obtain rfl := Option.some.inj h
  clear h
  go_enter Tryz.func9,Tryz.ntmps9
  go_wp2_with (first | (go_at_call 24;go_loud (refine (vz.calls k a0_0 a0_1 a0_2 a0_3 a0_4 a0_5 a0_6 _ _ HG.out).mono ?_;rintro e w1 ⟨rfl,hb⟩;have HB1 := qq.mk ((hal _).trans (hb.mono (hal _).size));clear hb)))
  go_ret
  exact ⟨rfl,HB1.out⟩
 | true =>
  rw [if_pos rfl] at h
  obtain ⟨t,ht,h⟩ := Option.bind_eq_some_iff.mp h
  by_cases hc : 1 ≤ a0_1 ∧ a0_1 ≤ 4 ∧ a0_0.size ≤ 1000000000 ∧ t.size ≤ 1000000000
  case neg => rw [if_neg hc] at h;cases h
  rw [if_pos hc] at h
  obtain rfl := Option.some.inj h
  obtain ⟨hc1,hc2,hc3,hc4⟩ := hc
  have HT := qq.mk ht
  have hop := opAt_size a0_1
  obtain ⟨j,rfl⟩ : ∃ j : Nat,a0_1 = ((j + 1 : Nat) : Int) := ⟨(a0_1 - 1).toNat,by omega⟩
  have hj : j < 4 := by omega
  have hoj : opWords[j]? = some (opAt ((j + 1 : Nat) : Int)) := by
   unfold opAt
   rw [show (((j + 1 : Nat) : Int) - 1).toNat = j by omega,List.getD_eq_getElem?_getD,List.getElem?_eq_getElem (show j < opWords.length from hj)]
   rfl
  have HOJ := qq.mk hoj
  obtain ⟨q,eq⟩ : ∃ q,q = opAt ((j + 1 : Nat) : Int) := ⟨_,rfl⟩
  rw [← eq] at hop
  have EQ := qq.mk eq
  have s1 : ¬ 9223372036854775807 < a0_0.size + 1 := by omega
  have s2 : ¬ 9223372036854775807 < a0_0.size + 1 + q.size := by omega
  have s3 : ¬ 9223372036854775807 < a0_0.size + 1 + q.size + 1 := by omega
  have s4 : ¬ 9223372036854775807 < a0_0.size + 1 + q.size + 1 + t.size := by omega
  have w1a : wrap64 ((j : Int) + 1 - 1) = (j : Int) := by unfold wrap64;omega
  have p1 : (0 ≤ (j : Int)) = True := eq_true (by omega)
  have p2 : ((j : Int) < 4) = True := eq_true (by omega)
  have p3 : j < 4 := hj
  clear h ht eq hoj hc1 hc2 hc3 hc4 hop
  go_enter Tryz.func9,Tryz.ntmps9
  go_wp2_with (first | (go_at_call 24;go_loud (refine (vz.calls k a0_0 ((j + 1 : Nat) : Int) a0_2 a0_3 a0_4 a0_5 a0_6 _ _ HG.out).mono ?_;rintro e w1 ⟨rfl,hb⟩;have HB1 := qq.mk ((hal _).trans (hb.mono (hal _).size));have HBK := qq.mk (jx (blk_new w _) hb);clear hb)))
  have HT1 := qq.mk (TabW_below HTAB.out HB1.out)
  obtain ⟨A,cap,hA,hA2⟩ := HT1.out.2
  have hq := hA2 j q (by rw [EQ.out];exact HOJ.out)
  have hK : ∀ W',Below w1.heap.size w1 W' → W'.cell? ⟨w.heap.size,0,none⟩ = some (.string a0_0) ∧ W'.cell? ⟨w.heap.size,1,none⟩ = some (.int .i64 ((j : Int) + 1)) ∧ W'.cell? ⟨w.heap.size,3,none⟩ = some (.int .i64 a0_3) ∧ W'.cell? ⟨w.heap.size,4,none⟩ = some (.int .i64 a0_4) ∧ W'.cell? ⟨w.heap.size,5,none⟩ = some (.string a0_5) ∧ W'.cell? ⟨w.heap.size,6,none⟩ = some (.string a0_6) ∧ W'.cell? ⟨0,0,none⟩ = some (.slice (some A) 4 cap) ∧ W'.cell? (A.add j) = some (.string q) := fun W' hB => by
   have hbk := jx HBK.out hB
   exact ⟨qw hbk 0,qw hbk 1,qw hbk 3,qw hbk 4,qw hbk 5,qw hbk 6,(hB.cell (World.block_lt_of_cell? w1 _ hA)).trans hA,(hB.cell (World.block_lt_of_cell? w1 _ hq)).trans hq⟩
  obtain ⟨k0,k1,k2,k3,k4,k5,k6,k7⟩ := hK w1 (Below.refl _ _)
  have w1b : wrap64 (j : Int) = (j : Int) := by unfold wrap64;omega
  have w1c : IntKind.i64.wrap (j : Int) = (j : Int) := by rw [i64_w];exact w1b
  have w1i : IntKind.i64.wrap ((j : Int) + 1 - 1) = (j : Int) := by rw [i64_w];exact w1a
  go_region_held3 (fun W' => W'.cell? ⟨w.heap.size,0,none⟩ = some (.string a0_0) ∧ W'.cell? ⟨w.heap.size,1,none⟩ = some (.int .i64 ((j : Int) + 1)) ∧ W'.cell? ⟨w.heap.size,3,none⟩ = some (.int .i64 a0_3) ∧ W'.cell? ⟨w.heap.size,4,none⟩ = some (.int .i64 a0_4) ∧ W'.cell? ⟨w.heap.size,5,none⟩ = some (.string a0_5) ∧ W'.cell? ⟨w.heap.size,6,none⟩ = some (.string a0_6) ∧ W'.cell? ⟨0,0,none⟩ = some (.slice (some A) 4 cap) ∧ W'.cell? (A.add j) = some (.string q)) (first | go_keep | exact hK _ ((Below.refl w1.heap.size w1).drew.trans hB)) (first | (go_at_call 25;refine (kk.calls k a0_3 a0_4 a0_5 a0_6 t _ (by first | exact TabW_drew HT1.out | exact HT1.out) HT.out).mono ?_;rintro e w' ⟨rfl,hB⟩))
  go_wp2
  go_ret
  exact ⟨by unfold termB;rw [← EQ.out];rfl,HB1.out.drew.trans (hB.mono HB1.out.size)⟩
def xv.f (a0 : Int) : Option (Bool) := if a0 ≥ 48 then (some (decide (a0 ≤ 57))) else (some false)
set_option maxHeartbeats 8000000 in
set_option maxRecDepth 100000 in
theorem xv.calls (a0 : Int) (r : Bool) (w : World) (h : xv.f a0 = some r) :
  Calls Tryz.prog 70 #[.int .u8 a0] w fun e w' => e = .returned (.bool r) ∧ Drawn0 w w' := by
 have H : (if a0 ≥ 48 then (some (decide (a0 ≤ 57))) else (some false)) = some r := h
 clear h
 by_cases c2 : a0 ≥ 48
 ·rw [if_pos c2] at H
  have c2b0 : decide (48 ≤ a0) = true := decide_eq_true c2
  clear c2
  obtain rfl := Option.some.inj H
  go_enter Tryz.func70,Tryz.ntmps70
  go_wp2
  go_ret
  exact ⟨by first | rfl | (simp;done) | (simp [*];done),by repeat (first | exact Drawn0.refl _ | apply Drawn0.step)⟩
 ·rw [if_neg c2] at H
  have c2b0 : decide (48 ≤ a0) = false := decide_eq_false c2
  clear c2
  obtain rfl := Option.some.inj H
  go_enter Tryz.func70,Tryz.ntmps70
  go_wp2
  go_ret
  exact ⟨by first | rfl | (simp;done) | (simp [*];done),by repeat (first | exact Drawn0.refl _ | apply Drawn0.step)⟩
def xw.f (a0 : Int) : Option (Bool) := if a0 ≥ 97 then (if a0 ≤ 122 then (some true) else (if a0 ≥ 65 then (some (decide (a0 ≤ 90))) else (some false))) else (if a0 ≥ 65 then (some (decide (a0 ≤ 90))) else (some false))
set_option maxHeartbeats 8000000 in
set_option maxRecDepth 100000 in
theorem xw.calls (a0 : Int) (r : Bool) (w : World) (h : xw.f a0 = some r) :
  Calls Tryz.prog 71 #[.int .u8 a0] w fun e w' => e = .returned (.bool r) ∧ Drawn0 w w' := by
 have H : (if a0 ≥ 97 then (if a0 ≤ 122 then (some true) else (if a0 ≥ 65 then (some (decide (a0 ≤ 90))) else (some false))) else (if a0 ≥ 65 then (some (decide (a0 ≤ 90))) else (some false))) = some r := h
 clear h
 by_cases c2 : a0 ≥ 97
 ·rw [if_pos c2] at H
  have c2b0 : decide (97 ≤ a0) = true := decide_eq_true c2
  clear c2
  by_cases c3 : a0 ≤ 122
  ·rw [if_pos c3] at H
   have c3b0 : decide (a0 ≤ 122) = true := decide_eq_true c3
   clear c3
   obtain rfl := Option.some.inj H
   go_enter Tryz.func71,Tryz.ntmps71
   go_wp2
   go_ret
   exact ⟨by first | rfl | (simp;done) | (simp [*];done),by repeat (first | exact Drawn0.refl _ | apply Drawn0.step)⟩
  ·rw [if_neg c3] at H
   have c3b0 : decide (a0 ≤ 122) = false := decide_eq_false c3
   clear c3
   by_cases c4 : a0 ≥ 65
   ·rw [if_pos c4] at H
    have c4b0 : decide (65 ≤ a0) = true := decide_eq_true c4
    clear c4
    obtain rfl := Option.some.inj H
    go_enter Tryz.func71,Tryz.ntmps71
    go_wp2
    go_ret
    exact ⟨by first | rfl | (simp;done) | (simp [*];done),by repeat (first | exact Drawn0.refl _ | apply Drawn0.step)⟩
   ·rw [if_neg c4] at H
    have c4b0 : decide (65 ≤ a0) = false := decide_eq_false c4
    clear c4
    obtain rfl := Option.some.inj H
    go_enter Tryz.func71,Tryz.ntmps71
    go_wp2
    go_ret
    exact ⟨by first | rfl | (simp;done) | (simp [*];done),by repeat (first | exact Drawn0.refl _ | apply Drawn0.step)⟩
 ·rw [if_neg c2] at H
  have c2b0 : decide (97 ≤ a0) = false := decide_eq_false c2
  clear c2
  by_cases c5 : a0 ≥ 65
  ·rw [if_pos c5] at H
   have c5b0 : decide (65 ≤ a0) = true := decide_eq_true c5
   clear c5
   obtain rfl := Option.some.inj H
   go_enter Tryz.func71,Tryz.ntmps71
   go_wp2
   go_ret
   exact ⟨by first | rfl | (simp;done) | (simp [*];done),by repeat (first | exact Drawn0.refl _ | apply Drawn0.step)⟩
  ·rw [if_neg c5] at H
   have c5b0 : decide (65 ≤ a0) = false := decide_eq_false c5
   clear c5
   obtain rfl := Option.some.inj H
   go_enter Tryz.func71,Tryz.ntmps71
   go_wp2
   go_ret
   exact ⟨by first | rfl | (simp;done) | (simp [*];done),by repeat (first | exact Drawn0.refl _ | apply Drawn0.step)⟩
mutual
def xq.j0 : Nat → ByteArray → Bool → Option (Bool)
 | 0,_,_ => none
 | k + 1,x0,x16 => if x16 = true then (some false) else (xq.l0 k x0 0)
def xq.l0 : Nat → ByteArray → Int → Option (Bool)
 | 0,_,_ => none
 | k + 1,x0,x3 => if x3 < (x0.size : Int) then (if 0 ≤ x3 then ((xw.f (bt x0 x3)).bind fun t102 => (if t102 = true then (xq.l0 k x0 (wrap64 (x3 + 1))) else ((xv.f (bt x0 x3)).bind fun t103 => (if t103 = true then (xq.l0 k x0 (wrap64 (x3 + 1))) else (if (bt x0 x3) = 95 then (xq.l0 k x0 (wrap64 (x3 + 1))) else (some false)))))) else (none)) else (some true)
end
def xq.f (k : Nat) (a0 : ByteArray) : Option (Bool) := if (a0.size : Int) < 1 then (xq.j0 k a0 true) else (if (a0.size : Int) > 30 then (xq.j0 k a0 true) else (if 0 < (a0.size : Int) then ((xv.f (bt a0 0)).bind fun t101 => (xq.j0 k a0 t101)) else (none)))
set_option maxHeartbeats 8000000 in
set_option maxRecDepth 100000 in
theorem xq.calls (k : Nat) (a0 : ByteArray) (r : Bool) (w : World) (h : xq.f k a0 = some r) :
  Calls Tryz.prog 45 #[.string a0] w fun e w' => e = .returned (.bool r) ∧ Drawn0 w w' := by
 have H : (if (a0.size : Int) < 1 then (xq.j0 k a0 true) else (if (a0.size : Int) > 30 then (xq.j0 k a0 true) else (if 0 < (a0.size : Int) then ((xv.f (bt a0 0)).bind fun t101 => (xq.j0 k a0 t101)) else (none)))) = some r := h
 clear h
 have HC2 := qq.mk H
 clear H
 go_enter Tryz.func45,Tryz.ntmps45
 go_upto_region 1 with (fail)
 go_cut [16] (fun v16 wc => ∃ (kq : Nat) (x16_1 : Bool),v16 = .bool x16_1 ∧ qq (xq.j0 kq a0 x16_1 = some r) ∧ qq (kq ≤ k) ∧ Drawn0 w wc)
 case first =>
  have H := HC2.out
  clear HC2
  by_cases c3 : (a0.size : Int) < 1
  ·rw [if_pos c3] at H
   have c3b0 : decide ((a0.size : Int) < 1) = true := decide_eq_true c3
   have c3b1 : decide (a0.size < 1) = true := decide_eq_true (by omega)
   clear c3
   (first | rw [c3b0] | (simp only [i64_w,i32_w];rw [c3b0]) | skip)
   have H' := qq.mk H
   clear H
   go_wp2
   go_meet
   case rel => exact ⟨_,(true),(by first | rfl | (simp;done) | (simp [*];done)),H',⟨by first | omega | exact Nat.le_refl _⟩,by repeat (first | exact Drawn0.refl _ | apply Drawn0.step)⟩
  ·rw [if_neg c3] at H
   have c3b0 : decide ((a0.size : Int) < 1) = false := decide_eq_false c3
   have c3b1 : decide (a0.size < 1) = false := decide_eq_false (by omega)
   clear c3
   (first | rw [c3b0] | (simp only [i64_w,i32_w];rw [c3b0]) | skip)
   by_cases c4 : (a0.size : Int) > 30
   ·rw [if_pos c4] at H
    have c4b0 : decide (30 < (a0.size : Int)) = true := decide_eq_true c4
    have c4b1 : decide (30 < a0.size) = true := decide_eq_true (by omega)
    clear c4
    have H' := qq.mk H
    clear H
    go_wp2
    go_meet
    case rel => exact ⟨_,(true),(by first | rfl | (simp;done) | (simp [*];done)),H',⟨by first | omega | exact Nat.le_refl _⟩,by repeat (first | exact Drawn0.refl _ | apply Drawn0.step)⟩
   ·rw [if_neg c4] at H
    have c4b0 : decide (30 < (a0.size : Int)) = false := decide_eq_false c4
    have c4b1 : decide (30 < a0.size) = false := decide_eq_false (by omega)
    clear c4
    by_cases c5 : 0 < (a0.size : Int)
    ·rw [if_pos c5] at H
     have c5b0 : decide (0 < (a0.size : Int)) = true := decide_eq_true c5
     have c5b1 : decide (0 < a0.size) = true := decide_eq_true (by omega)
     clear c5
     replace H := Option.bind_eq_some_iff.mp H
     obtain ⟨t101,A70,H⟩ := H
     replace H : (xq.j0 k a0 t101) = some r := H
     have A7 := qq.mk A70
     clear A70
     have H' := qq.mk H
     clear H
     have p6 : 0 ≤ (0 : Int) := (by omega)
     have q6 : 0 < a0.size := (by have : (0 : Int) < (a0.size : Int) := of_decide_eq_true (by assumption);omega)
     have hx6 : ∀ h : 0 < a0.size,((a0[0]'h).toNat : Int) = bt a0 0 := bt_at a0 0
     clear p6
     have qi6 : (0 < (a0.size : Int)) = True := eq_true (of_decide_eq_true (by assumption))
     replace q6 := eq_true q6
     go_wp2_with (first | (go_at_call 70;(with_reducible refine (xv.calls (bt a0 0) t101 _ A7.out).mono ?_);rintro e w' ⟨rfl,⟨nd,rfl⟩⟩))
     go_meet
     case rel => exact ⟨_,(t101),(by first | rfl | (simp;done) | (simp [*];done)),H',⟨by first | omega | exact Nat.le_refl _⟩,by repeat (first | exact Drawn0.refl _ | apply Drawn0.step)⟩
    ·rw [if_neg c5] at H
     exact absurd H (by simp)
 case rest =>
  clear HC2
  try clear p2
  try clear c3
  try clear c3b0
  try clear c3b1
  try clear c4
  try clear c4b0
  try clear c4b1
  try clear c5
  try clear c5b0
  try clear c5b1
  try clear p6
  try clear q6
  try clear hx6
  try clear qi6
  try clear p6
  try clear q6
  obtain ⟨kq,x16_1,rfl,HA,HJ1,⟨mc1,rfl⟩⟩ := hcut
  cases kq with
  | zero => exact absurd HA.out (by simp [xq.j0])
  | succ kj1 =>
   have H := HA.out
   clear HA
   simp only [xq.j0] at H
   by_cases c8 : x16_1 = true
   ·subst c8
    have H1 : (some false) = some r := by rw [if_pos rfl] at H;exact H
    clear H
    have H := H1
    clear H1
    obtain rfl := Option.some.inj H
    go_wp2
    go_ret
    exact ⟨by first | rfl | (simp;done) | (simp [*];done),by repeat (first | exact Drawn0.refl _ | apply Drawn0.step)⟩
   ·replace c8 := Bool.eq_false_iff.mpr c8
    subst c8
    have H1 : (xq.l0 kj1 a0 0) = some r := by rw [if_neg (show ¬ (false = true) by decide)] at H;exact H
    clear H
    have H := H1
    clear H1
    have H' := qq.mk H
    clear H
    go_wp2
    go_loopg [3] kj1 (fun kq v3 w' => ∃ (x3_2 : Int),v3 = .int .i64 x3_2 ∧ qq (xq.l0 kq a0 x3_2 = some r) ∧ qq (kq ≤ kj1) ∧ Drawn0 w w')
    case atStart => exact ⟨(0),(by first | rfl | (simp;done) | (simp [*];done)),H',⟨Nat.le_refl _⟩,by repeat (first | exact Drawn0.refl _ | apply Drawn0.step)⟩
    case round =>
     clear H'
     try clear c1
     try clear p2
     try clear c3
     try clear c3b0
     try clear c3b1
     try clear c4
     try clear c4b0
     try clear c4b1
     try clear c5
     try clear c5b0
     try clear c5b1
     try clear p6
     try clear q6
     try clear hx6
     try clear qi6
     try clear c8
     try clear p2
     try clear p6
     try clear q6
     obtain ⟨x3_2,rfl,HA,HK2,⟨m2,rfl⟩⟩ := hrel
     cases gk with
     | zero => exact absurd HA.out (by simp [xq.l0])
     | succ k2 =>
      have H := HA.out
      clear HA
      simp only [xq.l0] at H
      by_cases c9 : x3_2 < (a0.size : Int)
      ·rw [if_pos c9] at H
       have c9b0 : decide (x3_2 < (a0.size : Int)) = true := decide_eq_true c9
       clear c9
       by_cases c10 : 0 ≤ x3_2
       ·rw [if_pos c10] at H
        have c10b0 : decide (0 ≤ x3_2) = true := decide_eq_true c10
        clear c10
        replace H := Option.bind_eq_some_iff.mp H
        obtain ⟨t102,A120,H⟩ := H
        replace H : (if t102 = true then (xq.l0 k2 a0 (wrap64 (x3_2 + 1))) else ((xv.f (bt a0 x3_2)).bind fun t103 => (if t103 = true then (xq.l0 k2 a0 (wrap64 (x3_2 + 1))) else (if (bt a0 x3_2) = 95 then (xq.l0 k2 a0 (wrap64 (x3_2 + 1))) else (some false))))) = some r := H
        have A12 := qq.mk A120
        clear A120
        by_cases c13 : t102 = true
        ·subst c13
         have H1 : (xq.l0 k2 a0 (wrap64 (x3_2 + 1))) = some r := by rw [if_pos rfl] at H;exact H
         clear H
         have H := H1
         clear H1
         have H' := qq.mk H
         clear H
         have p11 : 0 ≤ (x3_2 : Int) := of_decide_eq_true (by assumption)
         have q11 : x3_2 < (a0.size : Int) := of_decide_eq_true (by assumption)
         have hx11 := bt_at a0 x3_2
         replace p11 := eq_true p11
         replace q11 := eq_true q11
         go_wp2_with (first | ((with_reducible refine jv (f := 71) rfl ?_);refine goesL_ (some 26) rfl rfl Tryz.func71 (by kernel_rfl) rfl #[.int .u8 (bt a0 x3_2)] rfl (by (try simp only [List.map_toArray,List.map_cons,List.map_nil]);first | done | rfl | (simp only [List.length_drop,List.length_take];rfl)) ?_;(with_reducible refine (xw.calls (bt a0 x3_2) true _ A12.out).mono ?_);rintro e w' ⟨rfl,⟨nd,rfl⟩⟩;refine ⟨_,rfl,?_⟩))
         go_roundg k2
         case measure => have := HJ1.out;have := HK2.out;omega
         case rel => exact ⟨(wrap64 (x3_2 + 1)),(by first | rfl | (simp;done) | (simp [*];done)),H',⟨by have := HJ1.out;have := HK2.out;omega⟩,by repeat (first | exact Drawn0.refl _ | apply Drawn0.step)⟩
        ·replace c13 := Bool.eq_false_iff.mpr c13
         subst c13
         have H1 : ((xv.f (bt a0 x3_2)).bind fun t103 => (if t103 = true then (xq.l0 k2 a0 (wrap64 (x3_2 + 1))) else (if (bt a0 x3_2) = 95 then (xq.l0 k2 a0 (wrap64 (x3_2 + 1))) else (some false)))) = some r := by rw [if_neg (show ¬ (false = true) by decide)] at H;exact H
         clear H
         have H := H1
         clear H1
         replace H := Option.bind_eq_some_iff.mp H
         obtain ⟨t103,A150,H⟩ := H
         replace H : (if t103 = true then (xq.l0 k2 a0 (wrap64 (x3_2 + 1))) else (if (bt a0 x3_2) = 95 then (xq.l0 k2 a0 (wrap64 (x3_2 + 1))) else (some false))) = some r := H
         have A15 := qq.mk A150
         clear A150
         by_cases c16 : t103 = true
         ·subst c16
          have H1 : (xq.l0 k2 a0 (wrap64 (x3_2 + 1))) = some r := by rw [if_pos rfl] at H;exact H
          clear H
          have H := H1
          clear H1
          have H' := qq.mk H
          clear H
          have p11 : 0 ≤ (x3_2 : Int) := of_decide_eq_true (by assumption)
          have q11 : x3_2 < (a0.size : Int) := of_decide_eq_true (by assumption)
          have hx11 := bt_at a0 x3_2
          replace p11 := eq_true p11
          replace q11 := eq_true q11
          go_wp2_with (first | ((with_reducible refine jv (f := 71) rfl ?_);refine goesL_ (some 26) rfl rfl Tryz.func71 (by kernel_rfl) rfl #[.int .u8 (bt a0 x3_2)] rfl (by (try simp only [List.map_toArray,List.map_cons,List.map_nil]);first | done | rfl | (simp only [List.length_drop,List.length_take];rfl)) ?_;(with_reducible refine (xw.calls (bt a0 x3_2) false _ A12.out).mono ?_);rintro e w' ⟨rfl,⟨nd,rfl⟩⟩;refine ⟨_,rfl,?_⟩;have p14 : 0 ≤ (x3_2 : Int) := of_decide_eq_true (by assumption);have q14 : x3_2 < (a0.size : Int) := of_decide_eq_true (by assumption);have hx14 := bt_at a0 x3_2;replace p14 := eq_true p14;replace q14 := eq_true q14) | (go_at_call 70;(with_reducible refine (xv.calls (bt a0 x3_2) true _ A15.out).mono ?_);rintro e w' ⟨rfl,⟨nd,rfl⟩⟩))
          go_roundg k2
          case measure => have := HJ1.out;have := HK2.out;omega
          case rel => exact ⟨(wrap64 (x3_2 + 1)),(by first | rfl | (simp;done) | (simp [*];done)),H',⟨by have := HJ1.out;have := HK2.out;omega⟩,by repeat (first | exact Drawn0.refl _ | apply Drawn0.step)⟩
         ·replace c16 := Bool.eq_false_iff.mpr c16
          subst c16
          have H1 : (if (bt a0 x3_2) = 95 then (xq.l0 k2 a0 (wrap64 (x3_2 + 1))) else (some false)) = some r := by rw [if_neg (show ¬ (false = true) by decide)] at H;exact H
          clear H
          have H := H1
          clear H1
          by_cases c18 : (bt a0 x3_2) = 95
          ·rw [if_pos c18] at H
           have c18b0 : ((bt a0 x3_2) == 95) = true := beq_iff_eq.mpr c18
           have c18b1 : ((bt a0 x3_2) != 95) = false := bne_eq_false_iff_eq.mpr c18
           clear c18
           have H' := qq.mk H
           clear H
           have p11 : 0 ≤ (x3_2 : Int) := of_decide_eq_true (by assumption)
           have q11 : x3_2 < (a0.size : Int) := of_decide_eq_true (by assumption)
           have hx11 := bt_at a0 x3_2
           replace p11 := eq_true p11
           replace q11 := eq_true q11
           go_wp2_with (first | ((with_reducible refine jv (f := 71) rfl ?_);refine goesL_ (some 26) rfl rfl Tryz.func71 (by kernel_rfl) rfl #[.int .u8 (bt a0 x3_2)] rfl (by (try simp only [List.map_toArray,List.map_cons,List.map_nil]);first | done | rfl | (simp only [List.length_drop,List.length_take];rfl)) ?_;(with_reducible refine (xw.calls (bt a0 x3_2) false _ A12.out).mono ?_);rintro e w' ⟨rfl,⟨nd,rfl⟩⟩;refine ⟨_,rfl,?_⟩;have p14 : 0 ≤ (x3_2 : Int) := of_decide_eq_true (by assumption);have q14 : x3_2 < (a0.size : Int) := of_decide_eq_true (by assumption);have hx14 := bt_at a0 x3_2;replace p14 := eq_true p14;replace q14 := eq_true q14) | (go_at_call 70;(with_reducible refine (xv.calls (bt a0 x3_2) false _ A15.out).mono ?_);rintro e w' ⟨rfl,⟨nd,rfl⟩⟩;have p17 : 0 ≤ (x3_2 : Int) := of_decide_eq_true (by assumption);have q17 : x3_2 < (a0.size : Int) := of_decide_eq_true (by assumption);have hx17 := bt_at a0 x3_2;replace p17 := eq_true p17;replace q17 := eq_true q17))
           go_roundg k2
           case measure => have := HJ1.out;have := HK2.out;omega
           case rel => exact ⟨(wrap64 (x3_2 + 1)),(by first | rfl | (simp;done) | (simp [*];done)),H',⟨by have := HJ1.out;have := HK2.out;omega⟩,by repeat (first | exact Drawn0.refl _ | apply Drawn0.step)⟩
          ·rw [if_neg c18] at H
           have c18b0 : ((bt a0 x3_2) == 95) = false := beq_eq_false_iff_ne.mpr c18
           have c18b1 : ((bt a0 x3_2) != 95) = true := bne_iff_ne.mpr c18
           obtain rfl := Option.some.inj H
           have p11 : 0 ≤ (x3_2 : Int) := of_decide_eq_true (by assumption)
           have q11 : x3_2 < (a0.size : Int) := of_decide_eq_true (by assumption)
           have hx11 := bt_at a0 x3_2
           replace p11 := eq_true p11
           replace q11 := eq_true q11
           go_wp2_with (first | ((with_reducible refine jv (f := 71) rfl ?_);refine goesL_ (some 26) rfl rfl Tryz.func71 (by kernel_rfl) rfl #[.int .u8 (bt a0 x3_2)] rfl (by (try simp only [List.map_toArray,List.map_cons,List.map_nil]);first | done | rfl | (simp only [List.length_drop,List.length_take];rfl)) ?_;(with_reducible refine (xw.calls (bt a0 x3_2) false _ A12.out).mono ?_);rintro e w' ⟨rfl,⟨nd,rfl⟩⟩;refine ⟨_,rfl,?_⟩;have p14 : 0 ≤ (x3_2 : Int) := of_decide_eq_true (by assumption);have q14 : x3_2 < (a0.size : Int) := of_decide_eq_true (by assumption);have hx14 := bt_at a0 x3_2;replace p14 := eq_true p14;replace q14 := eq_true q14) | (go_at_call 70;(with_reducible refine (xv.calls (bt a0 x3_2) false _ A15.out).mono ?_);rintro e w' ⟨rfl,⟨nd,rfl⟩⟩;have p17 : 0 ≤ (x3_2 : Int) := of_decide_eq_true (by assumption);have q17 : x3_2 < (a0.size : Int) := of_decide_eq_true (by assumption);have hx17 := bt_at a0 x3_2;replace p17 := eq_true p17;replace q17 := eq_true q17))
           go_ret
           exact ⟨by first | rfl | (simp;done) | (simp [*];done),by repeat (first | exact Drawn0.refl _ | apply Drawn0.step)⟩
       ·rw [if_neg c10] at H
        exact absurd H (by simp)
      ·rw [if_neg c9] at H
       have c9b0 : decide (x3_2 < (a0.size : Int)) = false := decide_eq_false c9
       clear c9
       obtain rfl := Option.some.inj H
       go_wp2
       go_ret
       exact ⟨by first | rfl | (simp;done) | (simp [*];done),by repeat (first | exact Drawn0.refl _ | apply Drawn0.step)⟩
end Go.Proofs.YtnbbbjfjkhglhaaGreatDoor.Pr
namespace Go.Proofs.YtnbbbjfjkhglhaaGreatDoor.Pr
open Go.RowKit Go.Proofs.YtnbbbjfjkhglhaaGreatDoorW.PrintWords Go.Proofs.YtnbbbjfjkhglhaaGreatDoorW.PrintLast Go.Proofs.YtnbbbjfjkhglhaaGreatDoorW.PrintMore
attribute [local go_sem] max2_int min2_int max_two min_two max_three min_three max_four min_four
set_option linter.unusedVariables false
set_option linter.unusedSimpArgs false
def qqq.l0 : Nat → Int → Int → Int → Option (Int)
 | 0,_,_,_ => none
 | k + 1,x0,x3,x4 => if x4 < x0 then (qqq.l0 k x0 (wrap64 (x3 * 2)) (wrap64 (x4 + 1))) else (some x3)
def qqq.f (k : Nat) (a0 : Int) : Option (Int) := qqq.l0 k a0 1 0
set_option maxHeartbeats 8000000 in
set_option maxRecDepth 100000 in
theorem qqq.calls (k : Nat) (a0 : Int) (r : Int) (w : World) (h : qqq.f k a0 = some r) :
  Calls Tryz.prog 73 #[.int .i64 a0] w fun e w' => e = .returned (.int .i64 r) ∧ Drawn0 w w' := by
 have H : (qqq.l0 k a0 1 0) = some r := h
 clear h
 have H' := qq.mk H
 clear H
 go_enter Tryz.func73,Tryz.ntmps73
 go_wp2
 go_loopg [3,4] k (fun kq v3 v4 w' => ∃ (x3_1 : Int) (x4_1 : Int),v3 = .int .i64 x3_1 ∧ v4 = .int .i64 x4_1 ∧ qq (qqq.l0 kq a0 x3_1 x4_1 = some r) ∧ qq (kq ≤ k) ∧ Drawn0 w w')
 case atStart => exact ⟨(1),(0),(by first | rfl | (simp;done) | (simp [*];done)),(by first | rfl | (simp;done) | (simp [*];done)),H',⟨Nat.le_refl _⟩,by repeat (first | exact Drawn0.refl _ | apply Drawn0.step)⟩
 case round =>
  clear H'
  obtain ⟨x3_1,x4_1,rfl,rfl,HA,HK1,⟨m1,rfl⟩⟩ := hrel
  cases gk with
  | zero => exact absurd HA.out (by simp [qqq.l0])
  | succ k1 =>
   have H := HA.out
   clear HA
   simp only [qqq.l0] at H
   by_cases c2 : x4_1 < a0
   ·rw [if_pos c2] at H
    have c2b0 : decide (x4_1 < a0) = true := decide_eq_true c2
    clear c2
    have H' := qq.mk H
    clear H
    go_wp2
    go_roundg k1
    case measure => have := HK1.out;omega
    case rel => exact ⟨(wrap64 (x3_1 * 2)),(wrap64 (x4_1 + 1)),(by first | rfl | (simp;done) | (simp [*];done)),(by first | rfl | (simp;done) | (simp [*];done)),H',⟨by have := HK1.out;omega⟩,by repeat (first | exact Drawn0.refl _ | apply Drawn0.step)⟩
   ·rw [if_neg c2] at H
    have c2b0 : decide (x4_1 < a0) = false := decide_eq_false c2
    clear c2
    obtain rfl := Option.some.inj H
    go_wp2
    go_ret
    exact ⟨by first | rfl | (simp;done) | (simp [*];done),by repeat (first | exact Drawn0.refl _ | apply Drawn0.step)⟩
end Go.Proofs.YtnbbbjfjkhglhaaGreatDoor.Pr
namespace Go.Proofs.YtnbbbjfjkhglhaaGreatDoor.Pr
open Go.RowKit Go.Proofs.YtnbbbjfjkhglhaaGreatDoorW.PrintWords Go.Proofs.YtnbbbjfjkhglhaaGreatDoorW.PrintLast Go.Proofs.YtnbbbjfjkhglhaaGreatDoorW.PrintMore
attribute [local go_sem] max2_int min2_int max_two min_two max_three min_three max_four min_four
set_option linter.unusedVariables false
set_option linter.unusedSimpArgs false
def xk.f (k : Nat) (a0_0 : Int) (a0_1 : Int) (a0_2 : ByteArray) (a0_3 : ByteArray) : Option (Int × Int) := (qqq.f k (wrap64 (32 - (Int.tmod a0_1 64)))).bind fun t102 => (some (wrap64 (Int.tdiv a0_1 64),t102))
set_option maxHeartbeats 8000000 in
set_option maxRecDepth 100000 in
theorem xk.calls (k : Nat) (a0_0 : Int) (a0_1 : Int) (a0_2 : ByteArray) (a0_3 : ByteArray) (r1 : Int) (r2 : Int) (w : World) (h : xk.f k a0_0 a0_1 a0_2 a0_3 = some (r1,r2)) :
  Calls Tryz.prog 50 #[.agg #[.int .i64 a0_0,.int .i64 a0_1,.string a0_2,.string a0_3]] w fun e w' => e = .returned (.tuple #[.int .i64 r1,.int .i64 r2]) ∧ Below w.heap.size w w' := by
 have hu28 := Tryz.underlying28
 have HB := qq.mk (Below.refl w.heap.size w)
 have H : ((qqq.f k (wrap64 (32 - (Int.tmod a0_1 64)))).bind fun t102 => (some (wrap64 (Int.tdiv a0_1 64),t102))) = some (r1,r2) := h
 clear h
 replace H := Option.bind_eq_some_iff.mp H
 obtain ⟨t102,A20,H⟩ := H
 replace H : (some (wrap64 (Int.tdiv a0_1 64),t102)) = some (r1,r2) := H
 have A2 := qq.mk A20
 clear A20
 simp only [Option.some.injEq,Prod.mk.injEq] at H
 obtain ⟨rfl,rfl⟩ := H
 go_enter Tryz.func50,Tryz.ntmps50
 go_wp2_with (first | ((with_reducible refine gate_dst (N := 1) rfl ?_);refine box_event ?hg (N := 1) ?hd (cs := #[.int .i64 a0_0,.int .i64 a0_1,.string a0_2,.string a0_3]) (t := 28) ?hr ?_;(case hd => rfl);(case hg => rfl);(case hr => first | (go_simp;done) | (go_simp;rfl));intro gb101 hg w3 hbox hb;have n0_ := qq.mk (zv (by repeat (first | (with_reducible first | exact HB.out | apply qj | apply qz | apply qk) | exact HB.out)) hb);have n1_ := qq.mk (hbox);have n2_ := qq.mk ((by rw [hg];exact (zw (by repeat (first | (with_reducible first | exact HB.out | apply qj | apply qz | apply qk) | exact HB.out))) : w.heap.size ≤ gb101));have n3_ := qq.mk ((by rw [hg];exact (zw (by repeat (first | (with_reducible first | exact HB.out | apply qj | apply qz | apply qk) | exact HB.out))) : w.heap.size ≤ gb101));clear HB;have HB := n0_;have BK101 := n1_;have GW101 := n2_;have GE101 := n3_;clear n0_ n1_ n2_ n3_;clear hb hbox hg;have hcz4_0 : w3.cell? ⟨gb101,0,none⟩ = some (.int .i64 a0_0) := (qw BK101.out 0).trans rfl;have hcz4_1 : w3.cell? ⟨gb101,1,none⟩ = some (.int .i64 a0_1) := (qw BK101.out 1).trans rfl;have hcz4_2 : w3.cell? ⟨gb101,2,none⟩ = some (.string a0_2) := (qw BK101.out 2).trans rfl;have hcz4_3 : w3.cell? ⟨gb101,3,none⟩ = some (.string a0_3) := (qw BK101.out 3).trans rfl;have hfz4_0 := qv BK101.out 0;have hfz4_1 := qv BK101.out 1;have hfz4_2 := qv BK101.out 2;have hfz4_3 := qv BK101.out 3) | (go_at_call 73;(with_reducible refine (qqq.calls k (wrap64 (32 - (Int.tmod a0_1 64))) t102 _ A2.out).mono ?_);rintro e w' ⟨rfl,⟨nd,rfl⟩⟩;(try first | exact ⟨rfl,_,World.drewN_drewN _ _ _⟩ | exact ⟨rfl,_,Eq.trans (World.drewN_drewN _ _ _) (congrArg (World.drewN _) (Nat.add_assoc _ _ _))⟩)))
 repeat (go_quiet (first | ((with_reducible refine gate_dst (N := 1) rfl ?_);refine box_event ?hg (N := 1) ?hd (cs := #[.int .i64 a0_0,.int .i64 a0_1,.string a0_2,.string a0_3]) (t := 28) ?hr ?_;(case hd => rfl);(case hg => rfl);(case hr => first | (go_simp;done) | (go_simp;rfl));intro gb101 hg w3 hbox hb;have n0_ := qq.mk (zv (by repeat (first | (with_reducible first | exact HB.out | apply qj | apply qz | apply qk) | exact HB.out)) hb);have n1_ := qq.mk (hbox);have n2_ := qq.mk ((by rw [hg];exact (zw (by repeat (first | (with_reducible first | exact HB.out | apply qj | apply qz | apply qk) | exact HB.out))) : w.heap.size ≤ gb101));have n3_ := qq.mk ((by rw [hg];exact (zw (by repeat (first | (with_reducible first | exact HB.out | apply qj | apply qz | apply qk) | exact HB.out))) : w.heap.size ≤ gb101));clear HB;have HB := n0_;have BK101 := n1_;have GW101 := n2_;have GE101 := n3_;clear n0_ n1_ n2_ n3_;clear hb hbox hg;have hcz4_0 : w3.cell? ⟨gb101,0,none⟩ = some (.int .i64 a0_0) := (qw BK101.out 0).trans rfl;have hcz4_1 : w3.cell? ⟨gb101,1,none⟩ = some (.int .i64 a0_1) := (qw BK101.out 1).trans rfl;have hcz4_2 : w3.cell? ⟨gb101,2,none⟩ = some (.string a0_2) := (qw BK101.out 2).trans rfl;have hcz4_3 : w3.cell? ⟨gb101,3,none⟩ = some (.string a0_3) := (qw BK101.out 3).trans rfl;have hfz4_0 := qv BK101.out 0;have hfz4_1 := qv BK101.out 1;have hfz4_2 := qv BK101.out 2;have hfz4_3 := qv BK101.out 3) | (go_at_call 73;(with_reducible refine (qqq.calls k (wrap64 (32 - (Int.tmod a0_1 64))) t102 _ A2.out).mono ?_);rintro e w' ⟨rfl,⟨nd,rfl⟩⟩;(try first | exact ⟨rfl,_,World.drewN_drewN _ _ _⟩ | exact ⟨rfl,_,Eq.trans (World.drewN_drewN _ _ _) (congrArg (World.drewN _) (Nat.add_assoc _ _ _))⟩)));try go_wp2_with (first | ((with_reducible refine gate_dst (N := 1) rfl ?_);refine box_event ?hg (N := 1) ?hd (cs := #[.int .i64 a0_0,.int .i64 a0_1,.string a0_2,.string a0_3]) (t := 28) ?hr ?_;(case hd => rfl);(case hg => rfl);(case hr => first | (go_simp;done) | (go_simp;rfl));intro gb101 hg w3 hbox hb;have n0_ := qq.mk (zv (by repeat (first | (with_reducible first | exact HB.out | apply qj | apply qz | apply qk) | exact HB.out)) hb);have n1_ := qq.mk (hbox);have n2_ := qq.mk ((by rw [hg];exact (zw (by repeat (first | (with_reducible first | exact HB.out | apply qj | apply qz | apply qk) | exact HB.out))) : w.heap.size ≤ gb101));have n3_ := qq.mk ((by rw [hg];exact (zw (by repeat (first | (with_reducible first | exact HB.out | apply qj | apply qz | apply qk) | exact HB.out))) : w.heap.size ≤ gb101));clear HB;have HB := n0_;have BK101 := n1_;have GW101 := n2_;have GE101 := n3_;clear n0_ n1_ n2_ n3_;clear hb hbox hg;have hcz4_0 : w3.cell? ⟨gb101,0,none⟩ = some (.int .i64 a0_0) := (qw BK101.out 0).trans rfl;have hcz4_1 : w3.cell? ⟨gb101,1,none⟩ = some (.int .i64 a0_1) := (qw BK101.out 1).trans rfl;have hcz4_2 : w3.cell? ⟨gb101,2,none⟩ = some (.string a0_2) := (qw BK101.out 2).trans rfl;have hcz4_3 : w3.cell? ⟨gb101,3,none⟩ = some (.string a0_3) := (qw BK101.out 3).trans rfl;have hfz4_0 := qv BK101.out 0;have hfz4_1 := qv BK101.out 1;have hfz4_2 := qv BK101.out 2;have hfz4_3 := qv BK101.out 3) | (go_at_call 73;(with_reducible refine (qqq.calls k (wrap64 (32 - (Int.tmod a0_1 64))) t102 _ A2.out).mono ?_);rintro e w' ⟨rfl,⟨nd,rfl⟩⟩;(try first | exact ⟨rfl,_,World.drewN_drewN _ _ _⟩ | exact ⟨rfl,_,Eq.trans (World.drewN_drewN _ _ _) (congrArg (World.drewN _) (Nat.add_assoc _ _ _))⟩))))
 go_ret2
 exact ⟨by first | rfl | (simp [*,jk,jj] <;> rfl),by repeat (first | (with_reducible first | exact HB.out | apply qj | apply qz | apply qk | refine qx ?_ GE101.out) | exact HB.out)⟩
end Go.Proofs.YtnbbbjfjkhglhaaGreatDoor.Pr
namespace Go.Proofs.YtnbbbjfjkhglhaaGreatDoor.Pr
open Go.RowKit Go.Proofs.YtnbbbjfjkhglhaaGreatDoorW.PrintWords Go.Proofs.YtnbbbjfjkhglhaaGreatDoorW.PrintLast Go.Proofs.YtnbbbjfjkhglhaaGreatDoorW.PrintMore
attribute [local go_sem] max2_int min2_int max_two min_two max_three min_three max_four min_four
set_option linter.unusedVariables false
set_option linter.unusedSimpArgs false
def qqz.l0 : Nat → ByteArray → Int → Option (Bool)
 | 0,_,_ => none
 | k + 1,x0,x3 => if x3 < (x0.size : Int) then (if 0 ≤ x3 then (if (bt x0 x3) < 32 then (some false) else (if (bt x0 x3) > 126 then (some false) else (qqz.l0 k x0 (wrap64 (x3 + 1))))) else (none)) else (some true)
def qqz.f (k : Nat) (a0 : ByteArray) : Option (Bool) := qqz.l0 k a0 0
set_option maxHeartbeats 8000000 in
set_option maxRecDepth 100000 in
theorem qqz.calls (k : Nat) (a0 : ByteArray) (r : Bool) (w : World) (h : qqz.f k a0 = some r) :
  Calls Tryz.prog 72 #[.string a0] w fun e w' => e = .returned (.bool r) ∧ Drawn0 w w' := by
 have H : (qqz.l0 k a0 0) = some r := h
 clear h
 have H' := qq.mk H
 clear H
 go_enter Tryz.func72,Tryz.ntmps72
 go_wp2
 go_loopg [3] k (fun kq v3 w' => ∃ (x3_1 : Int),v3 = .int .i64 x3_1 ∧ qq (qqz.l0 kq a0 x3_1 = some r) ∧ qq (kq ≤ k) ∧ Drawn0 w w')
 case atStart => exact ⟨(0),(by first | rfl | (simp;done) | (simp [*];done)),H',⟨Nat.le_refl _⟩,by repeat (first | exact Drawn0.refl _ | apply Drawn0.step)⟩
 case round =>
  clear H'
  obtain ⟨x3_1,rfl,HA,HK1,⟨m1,rfl⟩⟩ := hrel
  cases gk with
  | zero => exact absurd HA.out (by simp [qqz.l0])
  | succ k1 =>
   have H := HA.out
   clear HA
   simp only [qqz.l0] at H
   by_cases c2 : x3_1 < (a0.size : Int)
   ·rw [if_pos c2] at H
    have c2b0 : decide (x3_1 < (a0.size : Int)) = true := decide_eq_true c2
    clear c2
    by_cases c3 : 0 ≤ x3_1
    ·rw [if_pos c3] at H
     have c3b0 : decide (0 ≤ x3_1) = true := decide_eq_true c3
     clear c3
     by_cases c5 : (bt a0 x3_1) < 32
     ·rw [if_pos c5] at H
      have c5b0 : decide ((bt a0 x3_1) < 32) = true := decide_eq_true c5
      clear c5
      obtain rfl := Option.some.inj H
      have p4 : 0 ≤ (x3_1 : Int) := of_decide_eq_true (by assumption)
      have q4 : x3_1 < (a0.size : Int) := of_decide_eq_true (by assumption)
      have hx4 := bt_at a0 x3_1
      replace p4 := eq_true p4
      replace q4 := eq_true q4
      go_wp2
      go_ret
      exact ⟨by first | rfl | (simp;done) | (simp [*];done),by repeat (first | exact Drawn0.refl _ | apply Drawn0.step)⟩
     ·rw [if_neg c5] at H
      have c5b0 : decide ((bt a0 x3_1) < 32) = false := decide_eq_false c5
      clear c5
      by_cases c7 : (bt a0 x3_1) > 126
      ·rw [if_pos c7] at H
       have c7b0 : decide (126 < (bt a0 x3_1)) = true := decide_eq_true c7
       clear c7
       obtain rfl := Option.some.inj H
       have p4 : 0 ≤ (x3_1 : Int) := of_decide_eq_true (by assumption)
       have q4 : x3_1 < (a0.size : Int) := of_decide_eq_true (by assumption)
       have hx4 := bt_at a0 x3_1
       replace p4 := eq_true p4
       replace q4 := eq_true q4
       have p6 : 0 ≤ (x3_1 : Int) := of_decide_eq_true (by assumption)
       have q6 : x3_1 < (a0.size : Int) := of_decide_eq_true (by assumption)
       have hx6 := bt_at a0 x3_1
       replace p6 := eq_true p6
       replace q6 := eq_true q6
       go_wp2
       go_ret
       exact ⟨by first | rfl | (simp;done) | (simp [*];done),by repeat (first | exact Drawn0.refl _ | apply Drawn0.step)⟩
      ·rw [if_neg c7] at H
       have c7b0 : decide (126 < (bt a0 x3_1)) = false := decide_eq_false c7
       clear c7
       have H' := qq.mk H
       clear H
       have p4 : 0 ≤ (x3_1 : Int) := of_decide_eq_true (by assumption)
       have q4 : x3_1 < (a0.size : Int) := of_decide_eq_true (by assumption)
       have hx4 := bt_at a0 x3_1
       replace p4 := eq_true p4
       replace q4 := eq_true q4
       have p6 : 0 ≤ (x3_1 : Int) := of_decide_eq_true (by assumption)
       have q6 : x3_1 < (a0.size : Int) := of_decide_eq_true (by assumption)
       have hx6 := bt_at a0 x3_1
       replace p6 := eq_true p6
       replace q6 := eq_true q6
       go_wp2
       go_roundg k1
       case measure => have := HK1.out;omega
       case rel => exact ⟨(wrap64 (x3_1 + 1)),(by first | rfl | (simp;done) | (simp [*];done)),H',⟨by have := HK1.out;omega⟩,by repeat (first | exact Drawn0.refl _ | apply Drawn0.step)⟩
    ·rw [if_neg c3] at H
     exact absurd H (by simp)
   ·rw [if_neg c2] at H
    have c2b0 : decide (x3_1 < (a0.size : Int)) = false := decide_eq_false c2
    clear c2
    obtain rfl := Option.some.inj H
    go_wp2
    go_ret
    exact ⟨by first | rfl | (simp;done) | (simp [*];done),by repeat (first | exact Drawn0.refl _ | apply Drawn0.step)⟩
end Go.Proofs.YtnbbbjfjkhglhaaGreatDoor.Pr
namespace Go.Proofs.YtnbbbjfjkhglhaaGreatDoor.Pr
open Go.RowKit Go.Proofs.YtnbbbjfjkhglhaaGreatDoorW.PrintWords Go.Proofs.YtnbbbjfjkhglhaaGreatDoorW.PrintLast Go.Proofs.YtnbbbjfjkhglhaaGreatDoorW.PrintMore
attribute [local go_sem] max2_int min2_int max_two min_two max_three min_three max_four min_four
set_option linter.unusedVariables false
set_option linter.unusedSimpArgs false
mutual
def wx.j0 : Nat → Bool → Int → Int → ByteArray → ByteArray → Option (Bool)
 | 0,_,_,_,_,_ => none
 | k + 1,x27,x102000,x102001,x102002,x102003 => if x27 = true then (some false) else (if x102000 = 1 then (if x102001 = 0 then (some true) else (some (x102001 == 1))) else (if x102000 = 2 then (wx.j1 k x102000 (x102000 == 2) x102000 x102001 x102002 x102003) else (wx.j1 k x102000 (x102000 == 5) x102000 x102001 x102002 x102003)))
def wx.j1 : Nat → Int → Bool → Int → Int → ByteArray → ByteArray → Option (Bool)
 | 0,_,_,_,_,_,_ => none
 | k + 1,x29,x40,x102000,x102001,x102002,x102003 => if x40 = true then (some true) else (if x29 = 3 then (if x102001 = 0 then (if (x102002.size : Int) ≤ 200 then ((qqz.f k x102002).bind fun t102 => (some t102)) else (some false)) else (some false)) else (if x29 = 4 then (if x102001 = 0 then ((xq.f k x102003).bind fun t103 => (if t103 = true then (if (x102002.size : Int) ≥ 1 then (if (x102002.size : Int) ≤ 200 then ((qqz.f k x102002).bind fun t104 => (some t104)) else (some false)) else (some false)) else (some false))) else (some false)) else (if x29 = 6 then (if x102001 < 0 then (some false) else ((qqq.f k 32).bind fun t105 => (if (wrap64 (Int.tdiv x102001 64)) > (wrap64 (t105 - 1)) then (some false) else (if (Int.tmod x102001 64) > 32 then (some false) else ((xk.f k x102000 x102001 x102002 x102003).bind fun bt106 => (if bt106.2 = 0 then (none) else (some ((Int.tmod bt106.1 bt106.2) == 0)))))))) else (if x29 = 7 then (if x102001 ≥ (-100000000000) then (some (decide (x102001 ≤ 100000000000))) else (some false)) else (some false)))))
end
def wx.f (k : Nat) (a0_0 : Int) (a0_1 : Int) (a0_2 : ByteArray) (a0_3 : ByteArray) : Option (Bool) := if a0_0 = 3 then (if a0_0 = 4 then (wx.j0 k false a0_0 a0_1 a0_2 a0_3) else (wx.j0 k (a0_3.toList != ([] : List UInt8)) a0_0 a0_1 a0_2 a0_3)) else (if a0_0 = 4 then (wx.j0 k false a0_0 a0_1 a0_2 a0_3) else (if a0_2.toList = ([] : List UInt8) then (wx.j0 k (a0_3.toList != ([] : List UInt8)) a0_0 a0_1 a0_2 a0_3) else (wx.j0 k true a0_0 a0_1 a0_2 a0_3)))
set_option maxHeartbeats 8000000 in
set_option maxRecDepth 100000 in
theorem wx.calls (k : Nat) (a0_0 : Int) (a0_1 : Int) (a0_2 : ByteArray) (a0_3 : ByteArray) (r : Bool) (w : World) (h : wx.f k a0_0 a0_1 a0_2 a0_3 = some r) :
  Calls Tryz.prog 46 #[.agg #[.int .i64 a0_0,.int .i64 a0_1,.string a0_2,.string a0_3]] w fun e w' => e = .returned (.bool r) ∧ Below w.heap.size w w' := by
 have hu28 := Tryz.underlying28
 have HB := qq.mk (Below.refl w.heap.size w)
 have H : (if a0_0 = 3 then (if a0_0 = 4 then (wx.j0 k false a0_0 a0_1 a0_2 a0_3) else (wx.j0 k (a0_3.toList != ([] : List UInt8)) a0_0 a0_1 a0_2 a0_3)) else (if a0_0 = 4 then (wx.j0 k false a0_0 a0_1 a0_2 a0_3) else (if a0_2.toList = ([] : List UInt8) then (wx.j0 k (a0_3.toList != ([] : List UInt8)) a0_0 a0_1 a0_2 a0_3) else (wx.j0 k true a0_0 a0_1 a0_2 a0_3)))) = some r := h
 clear h
 have HC2 := qq.mk H
 clear H
 go_enter Tryz.func46,Tryz.ntmps46
 go_upto_region 1 with (first | ((with_reducible refine gate_dst (N := 1) rfl ?_);(try (refine gate_guard (by rfl) ?_;dsimp only));refine box_event ?hg (N := 1) ?hd (cs := #[.int .i64 a0_0,.int .i64 a0_1,.string a0_2,.string a0_3]) (t := 28) ?hr ?_;(case hd => rfl);(case hg => rfl);(case hr => first | (go_simp;done) | (go_simp;rfl));intro gb101 hg w3 hbox hb;have n0_ := qq.mk (zv (by repeat (first | (with_reducible first | exact HB.out | apply qj | apply qz | apply qk) | exact HB.out)) hb);have n1_ := qq.mk (hbox);have n2_ := qq.mk ((by rw [hg];exact (zw (by repeat (first | (with_reducible first | exact HB.out | apply qj | apply qz | apply qk) | exact HB.out))) : w.heap.size ≤ gb101));have n3_ := qq.mk ((by rw [hg];exact (zw (by repeat (first | (with_reducible first | exact HB.out | apply qj | apply qz | apply qk) | exact HB.out))) : w.heap.size ≤ gb101));clear HB;have HB := n0_;have BK101 := n1_;have GW101 := n2_;have GE101 := n3_;clear n0_ n1_ n2_ n3_;clear hb hbox hg))
 repeat (go_quiet (first | ((with_reducible refine gate_dst (N := 1) rfl ?_);(try (refine gate_guard (by rfl) ?_;dsimp only));refine box_event ?hg (N := 1) ?hd (cs := #[.int .i64 a0_0,.int .i64 a0_1,.string a0_2,.string a0_3]) (t := 28) ?hr ?_;(case hd => rfl);(case hg => rfl);(case hr => first | (go_simp;done) | (go_simp;rfl));intro gb101 hg w3 hbox hb;have n0_ := qq.mk (zv (by repeat (first | (with_reducible first | exact HB.out | apply qj | apply qz | apply qk) | exact HB.out)) hb);have n1_ := qq.mk (hbox);have n2_ := qq.mk ((by rw [hg];exact (zw (by repeat (first | (with_reducible first | exact HB.out | apply qj | apply qz | apply qk) | exact HB.out))) : w.heap.size ≤ gb101));have n3_ := qq.mk ((by rw [hg];exact (zw (by repeat (first | (with_reducible first | exact HB.out | apply qj | apply qz | apply qk) | exact HB.out))) : w.heap.size ≤ gb101));clear HB;have HB := n0_;have BK101 := n1_;have GW101 := n2_;have GE101 := n3_;clear n0_ n1_ n2_ n3_;clear hb hbox hg));go_upto_region 1 with (first | ((with_reducible refine gate_dst (N := 1) rfl ?_);(try (refine gate_guard (by rfl) ?_;dsimp only));refine box_event ?hg (N := 1) ?hd (cs := #[.int .i64 a0_0,.int .i64 a0_1,.string a0_2,.string a0_3]) (t := 28) ?hr ?_;(case hd => rfl);(case hg => rfl);(case hr => first | (go_simp;done) | (go_simp;rfl));intro gb101 hg w3 hbox hb;have n0_ := qq.mk (zv (by repeat (first | (with_reducible first | exact HB.out | apply qj | apply qz | apply qk) | exact HB.out)) hb);have n1_ := qq.mk (hbox);have n2_ := qq.mk ((by rw [hg];exact (zw (by repeat (first | (with_reducible first | exact HB.out | apply qj | apply qz | apply qk) | exact HB.out))) : w.heap.size ≤ gb101));have n3_ := qq.mk ((by rw [hg];exact (zw (by repeat (first | (with_reducible first | exact HB.out | apply qj | apply qz | apply qk) | exact HB.out))) : w.heap.size ≤ gb101));clear HB;have HB := n0_;have BK101 := n1_;have GW101 := n2_;have GE101 := n3_;clear n0_ n1_ n2_ n3_;clear hb hbox hg)))
 (try simp only [Act.put,List.setIfInBounds_toArray,List.set_cons_zero,List.set_cons_succ])
 go_cut [27] (fun v27 wc => ∃ (kq : Nat) (x27_1 : Bool),v27 = .bool x27_1 ∧ qq (wx.j0 kq x27_1 a0_0 a0_1 a0_2 a0_3 = some r) ∧ qq (kq ≤ k) ∧ qq (wc.heap[gb101]? = some (.cells #[.int .i64 a0_0,.int .i64 a0_1,.string a0_2,.string a0_3] 28 (0,0))) ∧ qq (Below w.heap.size w wc))
 case first =>
  have H := HC2.out
  clear HC2
  by_cases c4 : a0_0 = 3
  ·rw [if_pos c4] at H
   have c4b0 : (a0_0 == 3) = true := beq_iff_eq.mpr c4
   have c4b1 : (a0_0 != 3) = false := bne_eq_false_iff_eq.mpr c4
   clear c4
   (first | rw [c4b0] | (simp only [i64_w,i32_w];rw [c4b0]) | skip)
   by_cases c5 : a0_0 = 4
   ·rw [if_pos c5] at H
    have c5b0 : (a0_0 == 4) = true := beq_iff_eq.mpr c5
    have c5b1 : (a0_0 != 4) = false := bne_eq_false_iff_eq.mpr c5
    clear c5
    have H' := qq.mk H
    clear H
    have hcz6_0 : w3.cell? ⟨gb101,0,none⟩ = some (.int .i64 a0_0) := (qw BK101.out 0).trans rfl
    have hcz6_1 : w3.cell? ⟨gb101,1,none⟩ = some (.int .i64 a0_1) := (qw BK101.out 1).trans rfl
    have hcz6_2 : w3.cell? ⟨gb101,2,none⟩ = some (.string a0_2) := (qw BK101.out 2).trans rfl
    have hcz6_3 : w3.cell? ⟨gb101,3,none⟩ = some (.string a0_3) := (qw BK101.out 3).trans rfl
    have hfz6_0 := qv BK101.out 0
    have hfz6_1 := qv BK101.out 1
    have hfz6_2 := qv BK101.out 2
    have hfz6_3 := qv BK101.out 3
    go_wp2
    repeat (go_quiet (fail);try go_wp2)
    go_meet
    case rel => exact ⟨_,(false),(by first | rfl | (simp;done) | (simp [*];done) | (generalize ByteArray.toList _ = l_;cases l_ <;> first | rfl | (simp;done))),H',⟨by first | omega | exact Nat.le_refl _⟩,⟨by (with_reducible repeat (first | refine zz ?_ _ | refine zj ?_ | refine zq ?_ _));exact BK101.out⟩,⟨by repeat (first | (with_reducible first | exact HB.out | apply qj | apply qz | apply qk | refine qx ?_ GE101.out) | exact HB.out)⟩⟩
   ·rw [if_neg c5] at H
    have c5b0 : (a0_0 == 4) = false := beq_eq_false_iff_ne.mpr c5
    have c5b1 : (a0_0 != 4) = true := bne_iff_ne.mpr c5
    have H' := qq.mk H
    clear H
    have hcz7_0 : w3.cell? ⟨gb101,0,none⟩ = some (.int .i64 a0_0) := (qw BK101.out 0).trans rfl
    have hcz7_1 : w3.cell? ⟨gb101,1,none⟩ = some (.int .i64 a0_1) := (qw BK101.out 1).trans rfl
    have hcz7_2 : w3.cell? ⟨gb101,2,none⟩ = some (.string a0_2) := (qw BK101.out 2).trans rfl
    have hcz7_3 : w3.cell? ⟨gb101,3,none⟩ = some (.string a0_3) := (qw BK101.out 3).trans rfl
    have hfz7_0 := qv BK101.out 0
    have hfz7_1 := qv BK101.out 1
    have hfz7_2 := qv BK101.out 2
    have hfz7_3 := qv BK101.out 3
    go_wp2
    repeat (go_quiet (fail);try go_wp2)
    go_meet
    case rel => exact ⟨_,((a0_3.toList != ([] : List UInt8))),(by first | rfl | (simp;done) | (simp [*];done) | (generalize ByteArray.toList _ = l_;cases l_ <;> first | rfl | (simp;done))),H',⟨by first | omega | exact Nat.le_refl _⟩,⟨by (with_reducible repeat (first | refine zz ?_ _ | refine zj ?_ | refine zq ?_ _));exact BK101.out⟩,⟨by repeat (first | (with_reducible first | exact HB.out | apply qj | apply qz | apply qk | refine qx ?_ GE101.out) | exact HB.out)⟩⟩
  ·rw [if_neg c4] at H
   have c4b0 : (a0_0 == 3) = false := beq_eq_false_iff_ne.mpr c4
   have c4b1 : (a0_0 != 3) = true := bne_iff_ne.mpr c4
   (first | rw [c4b0] | (simp only [i64_w,i32_w];rw [c4b0]) | skip)
   by_cases c8 : a0_0 = 4
   ·rw [if_pos c8] at H
    have c8b0 : (a0_0 == 4) = true := beq_iff_eq.mpr c8
    have c8b1 : (a0_0 != 4) = false := bne_eq_false_iff_eq.mpr c8
    clear c8
    have H' := qq.mk H
    clear H
    have hcz9_0 : w3.cell? ⟨gb101,0,none⟩ = some (.int .i64 a0_0) := (qw BK101.out 0).trans rfl
    have hcz9_1 : w3.cell? ⟨gb101,1,none⟩ = some (.int .i64 a0_1) := (qw BK101.out 1).trans rfl
    have hcz9_2 : w3.cell? ⟨gb101,2,none⟩ = some (.string a0_2) := (qw BK101.out 2).trans rfl
    have hcz9_3 : w3.cell? ⟨gb101,3,none⟩ = some (.string a0_3) := (qw BK101.out 3).trans rfl
    have hfz9_0 := qv BK101.out 0
    have hfz9_1 := qv BK101.out 1
    have hfz9_2 := qv BK101.out 2
    have hfz9_3 := qv BK101.out 3
    go_wp2
    repeat (go_quiet (fail);try go_wp2)
    go_meet
    case rel => exact ⟨_,(false),(by first | rfl | (simp;done) | (simp [*];done) | (generalize ByteArray.toList _ = l_;cases l_ <;> first | rfl | (simp;done))),H',⟨by first | omega | exact Nat.le_refl _⟩,⟨by (with_reducible repeat (first | refine zz ?_ _ | refine zj ?_ | refine zq ?_ _));exact BK101.out⟩,⟨by repeat (first | (with_reducible first | exact HB.out | apply qj | apply qz | apply qk | refine qx ?_ GE101.out) | exact HB.out)⟩⟩
   ·rw [if_neg c8] at H
    have c8b0 : (a0_0 == 4) = false := beq_eq_false_iff_ne.mpr c8
    have c8b1 : (a0_0 != 4) = true := bne_iff_ne.mpr c8
    by_cases c10 : a0_2.toList = ([] : List UInt8)
    ·rw [if_pos c10] at H
     have c10b0 : (a0_2.toList == ([] : List UInt8)) = true := beq_iff_eq.mpr c10
     have c10b1 : (a0_2.toList != ([] : List UInt8)) = false := bne_eq_false_iff_eq.mpr c10
     clear c10
     have H' := qq.mk H
     clear H
     have hcz11_0 : w3.cell? ⟨gb101,0,none⟩ = some (.int .i64 a0_0) := (qw BK101.out 0).trans rfl
     have hcz11_1 : w3.cell? ⟨gb101,1,none⟩ = some (.int .i64 a0_1) := (qw BK101.out 1).trans rfl
     have hcz11_2 : w3.cell? ⟨gb101,2,none⟩ = some (.string a0_2) := (qw BK101.out 2).trans rfl
     have hcz11_3 : w3.cell? ⟨gb101,3,none⟩ = some (.string a0_3) := (qw BK101.out 3).trans rfl
     have hfz11_0 := qv BK101.out 0
     have hfz11_1 := qv BK101.out 1
     have hfz11_2 := qv BK101.out 2
     have hfz11_3 := qv BK101.out 3
     go_wp2
     repeat (go_quiet (fail);try go_wp2)
     go_meet
     case rel => exact ⟨_,((a0_3.toList != ([] : List UInt8))),(by first | rfl | (simp;done) | (simp [*];done) | (generalize ByteArray.toList _ = l_;cases l_ <;> first | rfl | (simp;done))),H',⟨by first | omega | exact Nat.le_refl _⟩,⟨by (with_reducible repeat (first | refine zz ?_ _ | refine zj ?_ | refine zq ?_ _));exact BK101.out⟩,⟨by repeat (first | (with_reducible first | exact HB.out | apply qj | apply qz | apply qk | refine qx ?_ GE101.out) | exact HB.out)⟩⟩
    ·rw [if_neg c10] at H
     have c10b0 : (a0_2.toList == ([] : List UInt8)) = false := beq_eq_false_iff_ne.mpr c10
     have c10b1 : (a0_2.toList != ([] : List UInt8)) = true := bne_iff_ne.mpr c10
     have H' := qq.mk H
     clear H
     have hcz12_0 : w3.cell? ⟨gb101,0,none⟩ = some (.int .i64 a0_0) := (qw BK101.out 0).trans rfl
     have hcz12_1 : w3.cell? ⟨gb101,1,none⟩ = some (.int .i64 a0_1) := (qw BK101.out 1).trans rfl
     have hcz12_2 : w3.cell? ⟨gb101,2,none⟩ = some (.string a0_2) := (qw BK101.out 2).trans rfl
     have hcz12_3 : w3.cell? ⟨gb101,3,none⟩ = some (.string a0_3) := (qw BK101.out 3).trans rfl
     have hfz12_0 := qv BK101.out 0
     have hfz12_1 := qv BK101.out 1
     have hfz12_2 := qv BK101.out 2
     have hfz12_3 := qv BK101.out 3
     go_wp2
     repeat (go_quiet (fail);try go_wp2)
     go_meet
     case rel => exact ⟨_,(true),(by first | rfl | (simp;done) | (simp [*];done) | (generalize ByteArray.toList _ = l_;cases l_ <;> first | rfl | (simp;done))),H',⟨by first | omega | exact Nat.le_refl _⟩,⟨by (with_reducible repeat (first | refine zz ?_ _ | refine zj ?_ | refine zq ?_ _));exact BK101.out⟩,⟨by repeat (first | (with_reducible first | exact HB.out | apply qj | apply qz | apply qk | refine qx ?_ GE101.out) | exact HB.out)⟩⟩
 case rest =>
  clear HC2
  try clear c1
  try clear p2
  try clear c4
  try clear c4b0
  try clear c4b1
  try clear c5
  try clear c5b0
  try clear c5b1
  try clear c8
  try clear c8b0
  try clear c8b1
  try clear c10
  try clear c10b0
  try clear c10b1
  try clear hcz11_0
  try clear hcz11_1
  try clear hcz11_2
  try clear hcz11_3
  try clear hcz12_0
  try clear hcz12_1
  try clear hcz12_2
  try clear hcz12_3
  try clear hcz6_0
  try clear hcz6_1
  try clear hcz6_2
  try clear hcz6_3
  try clear hcz7_0
  try clear hcz7_1
  try clear hcz7_2
  try clear hcz7_3
  try clear hcz9_0
  try clear hcz9_1
  try clear hcz9_2
  try clear hcz9_3
  try clear hfz11_0
  try clear hfz11_1
  try clear hfz11_2
  try clear hfz11_3
  try clear hfz12_0
  try clear hfz12_1
  try clear hfz12_2
  try clear hfz12_3
  try clear hfz6_0
  try clear hfz6_1
  try clear hfz6_2
  try clear hfz6_3
  try clear hfz7_0
  try clear hfz7_1
  try clear hfz7_2
  try clear hfz7_3
  try clear hfz9_0
  try clear hfz9_1
  try clear hfz9_2
  try clear hfz9_3
  obtain ⟨kq,x27_1,rfl,HA,HJ1,BK101,HB⟩ := hcut
  cases kq with
  | zero => exact absurd HA.out (by simp [wx.j0])
  | succ kj1 =>
   have H := HA.out
   clear HA
   simp only [wx.j0] at H
   by_cases c13 : x27_1 = true
   ·subst c13
    have H1 : (some false) = some r := by rw [if_pos rfl] at H;exact H
    clear H
    have H := H1
    clear H1
    obtain rfl := Option.some.inj H
    go_wp2
    repeat (go_quiet (fail);try go_wp2)
    go_ret
    exact ⟨by first | rfl | (simp [*,jk,jj] <;> rfl),by repeat (first | (with_reducible first | exact HB.out | apply qj | apply qz | apply qk | refine qx ?_ GE101.out) | exact HB.out)⟩
   ·replace c13 := Bool.eq_false_iff.mpr c13
    subst c13
    have H1 : (if a0_0 = 1 then (if a0_1 = 0 then (some true) else (some (a0_1 == 1))) else (if a0_0 = 2 then (wx.j1 kj1 a0_0 (a0_0 == 2) a0_0 a0_1 a0_2 a0_3) else (wx.j1 kj1 a0_0 (a0_0 == 5) a0_0 a0_1 a0_2 a0_3))) = some r := by rw [if_neg (show ¬ (false = true) by decide)] at H;exact H
    clear H
    have H := H1
    clear H1
    by_cases c14 : a0_0 = 1
    ·rw [if_pos c14] at H
     have c14b0 : (a0_0 == 1) = true := beq_iff_eq.mpr c14
     have c14b1 : (a0_0 != 1) = false := bne_eq_false_iff_eq.mpr c14
     clear c14
     by_cases c15 : a0_1 = 0
     ·rw [if_pos c15] at H
      have c15b0 : (a0_1 == 0) = true := beq_iff_eq.mpr c15
      have c15b1 : (a0_1 != 0) = false := bne_eq_false_iff_eq.mpr c15
      clear c15
      obtain rfl := Option.some.inj H
      have hcz16_0 : wc.cell? ⟨gb101,0,none⟩ = some (.int .i64 a0_0) := (qw BK101.out 0).trans rfl
      have hcz16_1 : wc.cell? ⟨gb101,1,none⟩ = some (.int .i64 a0_1) := (qw BK101.out 1).trans rfl
      have hcz16_2 : wc.cell? ⟨gb101,2,none⟩ = some (.string a0_2) := (qw BK101.out 2).trans rfl
      have hcz16_3 : wc.cell? ⟨gb101,3,none⟩ = some (.string a0_3) := (qw BK101.out 3).trans rfl
      have hfz16_0 := qv BK101.out 0
      have hfz16_1 := qv BK101.out 1
      have hfz16_2 := qv BK101.out 2
      have hfz16_3 := qv BK101.out 3
      go_wp2
      repeat (go_quiet (fail);try go_wp2)
      go_ret
      exact ⟨by first | rfl | (simp [*,jk,jj] <;> rfl),by repeat (first | (with_reducible first | exact HB.out | apply qj | apply qz | apply qk | refine qx ?_ GE101.out) | exact HB.out)⟩
     ·rw [if_neg c15] at H
      have c15b0 : (a0_1 == 0) = false := beq_eq_false_iff_ne.mpr c15
      have c15b1 : (a0_1 != 0) = true := bne_iff_ne.mpr c15
      obtain rfl := Option.some.inj H
      have hcz17_0 : wc.cell? ⟨gb101,0,none⟩ = some (.int .i64 a0_0) := (qw BK101.out 0).trans rfl
      have hcz17_1 : wc.cell? ⟨gb101,1,none⟩ = some (.int .i64 a0_1) := (qw BK101.out 1).trans rfl
      have hcz17_2 : wc.cell? ⟨gb101,2,none⟩ = some (.string a0_2) := (qw BK101.out 2).trans rfl
      have hcz17_3 : wc.cell? ⟨gb101,3,none⟩ = some (.string a0_3) := (qw BK101.out 3).trans rfl
      have hfz17_0 := qv BK101.out 0
      have hfz17_1 := qv BK101.out 1
      have hfz17_2 := qv BK101.out 2
      have hfz17_3 := qv BK101.out 3
      go_wp2
      repeat (go_quiet (fail);try go_wp2)
      go_ret
      exact ⟨by first | rfl | (simp [*,jk,jj] <;> rfl),by repeat (first | (with_reducible first | exact HB.out | apply qj | apply qz | apply qk | refine qx ?_ GE101.out) | exact HB.out)⟩
    ·rw [if_neg c14] at H
     have c14b0 : (a0_0 == 1) = false := beq_eq_false_iff_ne.mpr c14
     have c14b1 : (a0_0 != 1) = true := bne_iff_ne.mpr c14
     have HC18 := qq.mk H
     clear H
     have hcz19_0 : wc.cell? ⟨gb101,0,none⟩ = some (.int .i64 a0_0) := (qw BK101.out 0).trans rfl
     have hcz19_1 : wc.cell? ⟨gb101,1,none⟩ = some (.int .i64 a0_1) := (qw BK101.out 1).trans rfl
     have hcz19_2 : wc.cell? ⟨gb101,2,none⟩ = some (.string a0_2) := (qw BK101.out 2).trans rfl
     have hcz19_3 : wc.cell? ⟨gb101,3,none⟩ = some (.string a0_3) := (qw BK101.out 3).trans rfl
     have hfz19_0 := qv BK101.out 0
     have hfz19_1 := qv BK101.out 1
     have hfz19_2 := qv BK101.out 2
     have hfz19_3 := qv BK101.out 3
     go_upto_if 40 with (fail)
     repeat (go_quiet (fail);go_upto_if 40 with (fail))
     go_cut [40] (fun v40 wc => ∃ (kq : Nat) (x40_17 : Bool),v40 = .bool x40_17 ∧ qq (wx.j1 kq a0_0 x40_17 a0_0 a0_1 a0_2 a0_3 = some r) ∧ qq (kq ≤ kj1) ∧ qq (wc.heap[gb101]? = some (.cells #[.int .i64 a0_0,.int .i64 a0_1,.string a0_2,.string a0_3] 28 (0,0))) ∧ qq (Below w.heap.size w wc))
     case first =>
      have H := HC18.out
      clear HC18
      by_cases c20 : a0_0 = 2
      ·rw [if_pos c20] at H
       have c20b0 : (a0_0 == 2) = true := beq_iff_eq.mpr c20
       have c20b1 : (a0_0 != 2) = false := bne_eq_false_iff_eq.mpr c20
       clear c20
       (first | rw [c20b0] | (simp only [i64_w,i32_w];rw [c20b0]) | skip)
       have H' := qq.mk H
       clear H
       go_wp2
       repeat (go_quiet (fail);try go_wp2)
       go_meet
       case rel => exact ⟨_,((a0_0 == 2)),(by first | rfl | (simp;done) | (simp [*];done) | (generalize ByteArray.toList _ = l_;cases l_ <;> first | rfl | (simp;done))),H',⟨by have := HJ1.out;first | omega | exact Nat.le_refl _⟩,⟨by (with_reducible repeat (first | refine zz ?_ _ | refine zj ?_ | refine zq ?_ _));exact BK101.out⟩,⟨by repeat (first | (with_reducible first | exact HB.out | apply qj | apply qz | apply qk | refine qx ?_ GE101.out) | exact HB.out)⟩⟩
      ·rw [if_neg c20] at H
       have c20b0 : (a0_0 == 2) = false := beq_eq_false_iff_ne.mpr c20
       have c20b1 : (a0_0 != 2) = true := bne_iff_ne.mpr c20
       (first | rw [c20b0] | (simp only [i64_w,i32_w];rw [c20b0]) | skip)
       have H' := qq.mk H
       clear H
       go_wp2
       repeat (go_quiet (fail);try go_wp2)
       go_meet
       case rel => exact ⟨_,((a0_0 == 5)),(by first | rfl | (simp;done) | (simp [*];done) | (generalize ByteArray.toList _ = l_;cases l_ <;> first | rfl | (simp;done))),H',⟨by have := HJ1.out;first | omega | exact Nat.le_refl _⟩,⟨by (with_reducible repeat (first | refine zz ?_ _ | refine zj ?_ | refine zq ?_ _));exact BK101.out⟩,⟨by repeat (first | (with_reducible first | exact HB.out | apply qj | apply qz | apply qk | refine qx ?_ GE101.out) | exact HB.out)⟩⟩
     case rest =>
      clear HC18
      try clear c1
      try clear c2
      try clear p2
      try clear c4
      try clear c4b0
      try clear c4b1
      try clear c5
      try clear c5b0
      try clear c5b1
      try clear c8
      try clear c8b0
      try clear c8b1
      try clear c10
      try clear c10b0
      try clear c10b1
      try clear c13
      try clear c14
      try clear c14b0
      try clear c14b1
      try clear c15
      try clear c15b0
      try clear c15b1
      try clear c20
      try clear c20b0
      try clear c20b1
      try clear hcz11_0
      try clear hcz11_1
      try clear hcz11_2
      try clear hcz11_3
      try clear hcz12_0
      try clear hcz12_1
      try clear hcz12_2
      try clear hcz12_3
      try clear hcz16_0
      try clear hcz16_1
      try clear hcz16_2
      try clear hcz16_3
      try clear hcz17_0
      try clear hcz17_1
      try clear hcz17_2
      try clear hcz17_3
      try clear hcz19_0
      try clear hcz19_1
      try clear hcz19_2
      try clear hcz19_3
      try clear hcz6_0
      try clear hcz6_1
      try clear hcz6_2
      try clear hcz6_3
      try clear hcz7_0
      try clear hcz7_1
      try clear hcz7_2
      try clear hcz7_3
      try clear hcz9_0
      try clear hcz9_1
      try clear hcz9_2
      try clear hcz9_3
      try clear hfz11_0
      try clear hfz11_1
      try clear hfz11_2
      try clear hfz11_3
      try clear hfz12_0
      try clear hfz12_1
      try clear hfz12_2
      try clear hfz12_3
      try clear hfz16_0
      try clear hfz16_1
      try clear hfz16_2
      try clear hfz16_3
      try clear hfz17_0
      try clear hfz17_1
      try clear hfz17_2
      try clear hfz17_3
      try clear hfz19_0
      try clear hfz19_1
      try clear hfz19_2
      try clear hfz19_3
      try clear hfz6_0
      try clear hfz6_1
      try clear hfz6_2
      try clear hfz6_3
      try clear hfz7_0
      try clear hfz7_1
      try clear hfz7_2
      try clear hfz7_3
      try clear hfz9_0
      try clear hfz9_1
      try clear hfz9_2
      try clear hfz9_3
      try clear p2
      obtain ⟨kq,x40_17,rfl,HA,HJ17,BK101,HB⟩ := hcut
      cases kq with
      | zero => exact absurd HA.out (by simp [wx.j1])
      | succ kj17 =>
       have H := HA.out
       clear HA
       simp only [wx.j1] at H
       by_cases c21 : x40_17 = true
       ·subst c21
        have H1 : (some true) = some r := by rw [if_pos rfl] at H;exact H
        clear H
        have H := H1
        clear H1
        obtain rfl := Option.some.inj H
        go_wp2
        repeat (go_quiet (fail);try go_wp2)
        go_ret
        exact ⟨by first | rfl | (simp [*,jk,jj] <;> rfl),by repeat (first | (with_reducible first | exact HB.out | apply qj | apply qz | apply qk | refine qx ?_ GE101.out) | exact HB.out)⟩
       ·replace c21 := Bool.eq_false_iff.mpr c21
        subst c21
        have H1 : (if a0_0 = 3 then (if a0_1 = 0 then (if (a0_2.size : Int) ≤ 200 then ((qqz.f kj17 a0_2).bind fun t102 => (some t102)) else (some false)) else (some false)) else (if a0_0 = 4 then (if a0_1 = 0 then ((xq.f kj17 a0_3).bind fun t103 => (if t103 = true then (if (a0_2.size : Int) ≥ 1 then (if (a0_2.size : Int) ≤ 200 then ((qqz.f kj17 a0_2).bind fun t104 => (some t104)) else (some false)) else (some false)) else (some false))) else (some false)) else (if a0_0 = 6 then (if a0_1 < 0 then (some false) else ((qqq.f kj17 32).bind fun t105 => (if (wrap64 (Int.tdiv a0_1 64)) > (wrap64 (t105 - 1)) then (some false) else (if (Int.tmod a0_1 64) > 32 then (some false) else ((xk.f kj17 a0_0 a0_1 a0_2 a0_3).bind fun bt106 => (if bt106.2 = 0 then (none) else (some ((Int.tmod bt106.1 bt106.2) == 0)))))))) else (if a0_0 = 7 then (if a0_1 ≥ (-100000000000) then (some (decide (a0_1 ≤ 100000000000))) else (some false)) else (some false))))) = some r := by rw [if_neg (show ¬ (false = true) by decide)] at H;exact H
        clear H
        have H := H1
        clear H1
        by_cases c22 : a0_0 = 3
        ·rw [if_pos c22] at H
         have c22b0 : (a0_0 == 3) = true := beq_iff_eq.mpr c22
         have c22b1 : (a0_0 != 3) = false := bne_eq_false_iff_eq.mpr c22
         clear c22
         by_cases c23 : a0_1 = 0
         ·rw [if_pos c23] at H
          have c23b0 : (a0_1 == 0) = true := beq_iff_eq.mpr c23
          have c23b1 : (a0_1 != 0) = false := bne_eq_false_iff_eq.mpr c23
          clear c23
          by_cases c24 : (a0_2.size : Int) ≤ 200
          ·rw [if_pos c24] at H
           have c24b0 : decide ((a0_2.size : Int) ≤ 200) = true := decide_eq_true c24
           have c24b1 : decide (a0_2.size ≤ 200) = true := decide_eq_true (by omega)
           clear c24
           replace H := Option.bind_eq_some_iff.mp H
           obtain ⟨t102,A250,H⟩ := H
           replace H : (some t102) = some r := H
           have A25 := qq.mk A250
           clear A250
           obtain rfl := Option.some.inj H
           have hcz26_0 : wc.cell? ⟨gb101,0,none⟩ = some (.int .i64 a0_0) := (qw BK101.out 0).trans rfl
           have hcz26_1 : wc.cell? ⟨gb101,1,none⟩ = some (.int .i64 a0_1) := (qw BK101.out 1).trans rfl
           have hcz26_2 : wc.cell? ⟨gb101,2,none⟩ = some (.string a0_2) := (qw BK101.out 2).trans rfl
           have hcz26_3 : wc.cell? ⟨gb101,3,none⟩ = some (.string a0_3) := (qw BK101.out 3).trans rfl
           have hfz26_0 := qv BK101.out 0
           have hfz26_1 := qv BK101.out 1
           have hfz26_2 := qv BK101.out 2
           have hfz26_3 := qv BK101.out 3
           go_wp2_with (first | (go_at_call 72;(with_reducible refine (qqz.calls kj17 a0_2 t102 _ A25.out).mono ?_);rintro e w' ⟨rfl,⟨nd,rfl⟩⟩;(try first | exact ⟨rfl,_,World.drewN_drewN _ _ _⟩ | exact ⟨rfl,_,Eq.trans (World.drewN_drewN _ _ _) (congrArg (World.drewN _) (Nat.add_assoc _ _ _))⟩)))
           repeat (go_quiet (first | (go_at_call 72;(with_reducible refine (qqz.calls kj17 a0_2 t102 _ A25.out).mono ?_);rintro e w' ⟨rfl,⟨nd,rfl⟩⟩;(try first | exact ⟨rfl,_,World.drewN_drewN _ _ _⟩ | exact ⟨rfl,_,Eq.trans (World.drewN_drewN _ _ _) (congrArg (World.drewN _) (Nat.add_assoc _ _ _))⟩)));try go_wp2_with (first | (go_at_call 72;(with_reducible refine (qqz.calls kj17 a0_2 t102 _ A25.out).mono ?_);rintro e w' ⟨rfl,⟨nd,rfl⟩⟩;(try first | exact ⟨rfl,_,World.drewN_drewN _ _ _⟩ | exact ⟨rfl,_,Eq.trans (World.drewN_drewN _ _ _) (congrArg (World.drewN _) (Nat.add_assoc _ _ _))⟩))))
           go_ret
           exact ⟨by first | rfl | (simp [*,jk,jj] <;> rfl),by repeat (first | (with_reducible first | exact HB.out | apply qj | apply qz | apply qk | refine qx ?_ GE101.out) | exact HB.out)⟩
          ·rw [if_neg c24] at H
           have c24b0 : decide ((a0_2.size : Int) ≤ 200) = false := decide_eq_false c24
           have c24b1 : decide (a0_2.size ≤ 200) = false := decide_eq_false (by omega)
           clear c24
           obtain rfl := Option.some.inj H
           have hcz27_0 : wc.cell? ⟨gb101,0,none⟩ = some (.int .i64 a0_0) := (qw BK101.out 0).trans rfl
           have hcz27_1 : wc.cell? ⟨gb101,1,none⟩ = some (.int .i64 a0_1) := (qw BK101.out 1).trans rfl
           have hcz27_2 : wc.cell? ⟨gb101,2,none⟩ = some (.string a0_2) := (qw BK101.out 2).trans rfl
           have hcz27_3 : wc.cell? ⟨gb101,3,none⟩ = some (.string a0_3) := (qw BK101.out 3).trans rfl
           have hfz27_0 := qv BK101.out 0
           have hfz27_1 := qv BK101.out 1
           have hfz27_2 := qv BK101.out 2
           have hfz27_3 := qv BK101.out 3
           go_wp2
           repeat (go_quiet (fail);try go_wp2)
           go_ret
           exact ⟨by first | rfl | (simp [*,jk,jj] <;> rfl),by repeat (first | (with_reducible first | exact HB.out | apply qj | apply qz | apply qk | refine qx ?_ GE101.out) | exact HB.out)⟩
         ·rw [if_neg c23] at H
          have c23b0 : (a0_1 == 0) = false := beq_eq_false_iff_ne.mpr c23
          have c23b1 : (a0_1 != 0) = true := bne_iff_ne.mpr c23
          obtain rfl := Option.some.inj H
          have hcz28_0 : wc.cell? ⟨gb101,0,none⟩ = some (.int .i64 a0_0) := (qw BK101.out 0).trans rfl
          have hcz28_1 : wc.cell? ⟨gb101,1,none⟩ = some (.int .i64 a0_1) := (qw BK101.out 1).trans rfl
          have hcz28_2 : wc.cell? ⟨gb101,2,none⟩ = some (.string a0_2) := (qw BK101.out 2).trans rfl
          have hcz28_3 : wc.cell? ⟨gb101,3,none⟩ = some (.string a0_3) := (qw BK101.out 3).trans rfl
          have hfz28_0 := qv BK101.out 0
          have hfz28_1 := qv BK101.out 1
          have hfz28_2 := qv BK101.out 2
          have hfz28_3 := qv BK101.out 3
          go_wp2
          repeat (go_quiet (fail);try go_wp2)
          go_ret
          exact ⟨by first | rfl | (simp [*,jk,jj] <;> rfl),by repeat (first | (with_reducible first | exact HB.out | apply qj | apply qz | apply qk | refine qx ?_ GE101.out) | exact HB.out)⟩
        ·rw [if_neg c22] at H
         have c22b0 : (a0_0 == 3) = false := beq_eq_false_iff_ne.mpr c22
         have c22b1 : (a0_0 != 3) = true := bne_iff_ne.mpr c22
         by_cases c29 : a0_0 = 4
         ·rw [if_pos c29] at H
          have c29b0 : (a0_0 == 4) = true := beq_iff_eq.mpr c29
          have c29b1 : (a0_0 != 4) = false := bne_eq_false_iff_eq.mpr c29
          clear c29
          by_cases c30 : a0_1 = 0
          ·rw [if_pos c30] at H
           have c30b0 : (a0_1 == 0) = true := beq_iff_eq.mpr c30
           have c30b1 : (a0_1 != 0) = false := bne_eq_false_iff_eq.mpr c30
           clear c30
           replace H := Option.bind_eq_some_iff.mp H
           obtain ⟨t103,A310,H⟩ := H
           replace H : (if t103 = true then (if (a0_2.size : Int) ≥ 1 then (if (a0_2.size : Int) ≤ 200 then ((qqz.f kj17 a0_2).bind fun t104 => (some t104)) else (some false)) else (some false)) else (some false)) = some r := H
           have A31 := qq.mk A310
           clear A310
           by_cases c32 : t103 = true
           ·subst c32
            have H1 : (if (a0_2.size : Int) ≥ 1 then (if (a0_2.size : Int) ≤ 200 then ((qqz.f kj17 a0_2).bind fun t104 => (some t104)) else (some false)) else (some false)) = some r := by rw [if_pos rfl] at H;exact H
            clear H
            have H := H1
            clear H1
            by_cases c33 : (a0_2.size : Int) ≥ 1
            ·rw [if_pos c33] at H
             have c33b0 : decide (1 ≤ (a0_2.size : Int)) = true := decide_eq_true c33
             have c33b1 : decide (1 ≤ a0_2.size) = true := decide_eq_true (by omega)
             clear c33
             by_cases c34 : (a0_2.size : Int) ≤ 200
             ·rw [if_pos c34] at H
              have c34b0 : decide ((a0_2.size : Int) ≤ 200) = true := decide_eq_true c34
              have c34b1 : decide (a0_2.size ≤ 200) = true := decide_eq_true (by omega)
              clear c34
              replace H := Option.bind_eq_some_iff.mp H
              obtain ⟨t104,A350,H⟩ := H
              replace H : (some t104) = some r := H
              have A35 := qq.mk A350
              clear A350
              obtain rfl := Option.some.inj H
              have hcz36_0 : wc.cell? ⟨gb101,0,none⟩ = some (.int .i64 a0_0) := (qw BK101.out 0).trans rfl
              have hcz36_1 : wc.cell? ⟨gb101,1,none⟩ = some (.int .i64 a0_1) := (qw BK101.out 1).trans rfl
              have hcz36_2 : wc.cell? ⟨gb101,2,none⟩ = some (.string a0_2) := (qw BK101.out 2).trans rfl
              have hcz36_3 : wc.cell? ⟨gb101,3,none⟩ = some (.string a0_3) := (qw BK101.out 3).trans rfl
              have hfz36_0 := qv BK101.out 0
              have hfz36_1 := qv BK101.out 1
              have hfz36_2 := qv BK101.out 2
              have hfz36_3 := qv BK101.out 3
              go_wp2_with (first | (go_at_call 45;(with_reducible refine (xq.calls kj17 a0_3 true _ A31.out).mono ?_);rintro e w' ⟨rfl,⟨nd,rfl⟩⟩;(try first | exact ⟨rfl,_,World.drewN_drewN _ _ _⟩ | exact ⟨rfl,_,Eq.trans (World.drewN_drewN _ _ _) (congrArg (World.drewN _) (Nat.add_assoc _ _ _))⟩)) | (go_at_call 72;(with_reducible refine (qqz.calls kj17 a0_2 t104 _ A35.out).mono ?_);rintro e w' ⟨rfl,⟨nd,rfl⟩⟩;(try first | exact ⟨rfl,_,World.drewN_drewN _ _ _⟩ | exact ⟨rfl,_,Eq.trans (World.drewN_drewN _ _ _) (congrArg (World.drewN _) (Nat.add_assoc _ _ _))⟩)))
              repeat (go_quiet (first | (go_at_call 45;(with_reducible refine (xq.calls kj17 a0_3 true _ A31.out).mono ?_);rintro e w' ⟨rfl,⟨nd,rfl⟩⟩;(try first | exact ⟨rfl,_,World.drewN_drewN _ _ _⟩ | exact ⟨rfl,_,Eq.trans (World.drewN_drewN _ _ _) (congrArg (World.drewN _) (Nat.add_assoc _ _ _))⟩)) | (go_at_call 72;(with_reducible refine (qqz.calls kj17 a0_2 t104 _ A35.out).mono ?_);rintro e w' ⟨rfl,⟨nd,rfl⟩⟩;(try first | exact ⟨rfl,_,World.drewN_drewN _ _ _⟩ | exact ⟨rfl,_,Eq.trans (World.drewN_drewN _ _ _) (congrArg (World.drewN _) (Nat.add_assoc _ _ _))⟩)));try go_wp2_with (first | (go_at_call 45;(with_reducible refine (xq.calls kj17 a0_3 true _ A31.out).mono ?_);rintro e w' ⟨rfl,⟨nd,rfl⟩⟩;(try first | exact ⟨rfl,_,World.drewN_drewN _ _ _⟩ | exact ⟨rfl,_,Eq.trans (World.drewN_drewN _ _ _) (congrArg (World.drewN _) (Nat.add_assoc _ _ _))⟩)) | (go_at_call 72;(with_reducible refine (qqz.calls kj17 a0_2 t104 _ A35.out).mono ?_);rintro e w' ⟨rfl,⟨nd,rfl⟩⟩;(try first | exact ⟨rfl,_,World.drewN_drewN _ _ _⟩ | exact ⟨rfl,_,Eq.trans (World.drewN_drewN _ _ _) (congrArg (World.drewN _) (Nat.add_assoc _ _ _))⟩))))
              go_ret
              exact ⟨by first | rfl | (simp [*,jk,jj] <;> rfl),by repeat (first | (with_reducible first | exact HB.out | apply qj | apply qz | apply qk | refine qx ?_ GE101.out) | exact HB.out)⟩
             ·rw [if_neg c34] at H
              have c34b0 : decide ((a0_2.size : Int) ≤ 200) = false := decide_eq_false c34
              have c34b1 : decide (a0_2.size ≤ 200) = false := decide_eq_false (by omega)
              clear c34
              obtain rfl := Option.some.inj H
              have hcz37_0 : wc.cell? ⟨gb101,0,none⟩ = some (.int .i64 a0_0) := (qw BK101.out 0).trans rfl
              have hcz37_1 : wc.cell? ⟨gb101,1,none⟩ = some (.int .i64 a0_1) := (qw BK101.out 1).trans rfl
              have hcz37_2 : wc.cell? ⟨gb101,2,none⟩ = some (.string a0_2) := (qw BK101.out 2).trans rfl
              have hcz37_3 : wc.cell? ⟨gb101,3,none⟩ = some (.string a0_3) := (qw BK101.out 3).trans rfl
              have hfz37_0 := qv BK101.out 0
              have hfz37_1 := qv BK101.out 1
              have hfz37_2 := qv BK101.out 2
              have hfz37_3 := qv BK101.out 3
              go_wp2_with (first | (go_at_call 45;(with_reducible refine (xq.calls kj17 a0_3 true _ A31.out).mono ?_);rintro e w' ⟨rfl,⟨nd,rfl⟩⟩;(try first | exact ⟨rfl,_,World.drewN_drewN _ _ _⟩ | exact ⟨rfl,_,Eq.trans (World.drewN_drewN _ _ _) (congrArg (World.drewN _) (Nat.add_assoc _ _ _))⟩)))
              repeat (go_quiet (first | (go_at_call 45;(with_reducible refine (xq.calls kj17 a0_3 true _ A31.out).mono ?_);rintro e w' ⟨rfl,⟨nd,rfl⟩⟩;(try first | exact ⟨rfl,_,World.drewN_drewN _ _ _⟩ | exact ⟨rfl,_,Eq.trans (World.drewN_drewN _ _ _) (congrArg (World.drewN _) (Nat.add_assoc _ _ _))⟩)));try go_wp2_with (first | (go_at_call 45;(with_reducible refine (xq.calls kj17 a0_3 true _ A31.out).mono ?_);rintro e w' ⟨rfl,⟨nd,rfl⟩⟩;(try first | exact ⟨rfl,_,World.drewN_drewN _ _ _⟩ | exact ⟨rfl,_,Eq.trans (World.drewN_drewN _ _ _) (congrArg (World.drewN _) (Nat.add_assoc _ _ _))⟩))))
              go_ret
              exact ⟨by first | rfl | (simp [*,jk,jj] <;> rfl),by repeat (first | (with_reducible first | exact HB.out | apply qj | apply qz | apply qk | refine qx ?_ GE101.out) | exact HB.out)⟩
            ·rw [if_neg c33] at H
             have c33b0 : decide (1 ≤ (a0_2.size : Int)) = false := decide_eq_false c33
             have c33b1 : decide (1 ≤ a0_2.size) = false := decide_eq_false (by omega)
             clear c33
             obtain rfl := Option.some.inj H
             have hcz38_0 : wc.cell? ⟨gb101,0,none⟩ = some (.int .i64 a0_0) := (qw BK101.out 0).trans rfl
             have hcz38_1 : wc.cell? ⟨gb101,1,none⟩ = some (.int .i64 a0_1) := (qw BK101.out 1).trans rfl
             have hcz38_2 : wc.cell? ⟨gb101,2,none⟩ = some (.string a0_2) := (qw BK101.out 2).trans rfl
             have hcz38_3 : wc.cell? ⟨gb101,3,none⟩ = some (.string a0_3) := (qw BK101.out 3).trans rfl
             have hfz38_0 := qv BK101.out 0
             have hfz38_1 := qv BK101.out 1
             have hfz38_2 := qv BK101.out 2
             have hfz38_3 := qv BK101.out 3
             go_wp2_with (first | (go_at_call 45;(with_reducible refine (xq.calls kj17 a0_3 true _ A31.out).mono ?_);rintro e w' ⟨rfl,⟨nd,rfl⟩⟩;(try first | exact ⟨rfl,_,World.drewN_drewN _ _ _⟩ | exact ⟨rfl,_,Eq.trans (World.drewN_drewN _ _ _) (congrArg (World.drewN _) (Nat.add_assoc _ _ _))⟩)))
             repeat (go_quiet (first | (go_at_call 45;(with_reducible refine (xq.calls kj17 a0_3 true _ A31.out).mono ?_);rintro e w' ⟨rfl,⟨nd,rfl⟩⟩;(try first | exact ⟨rfl,_,World.drewN_drewN _ _ _⟩ | exact ⟨rfl,_,Eq.trans (World.drewN_drewN _ _ _) (congrArg (World.drewN _) (Nat.add_assoc _ _ _))⟩)));try go_wp2_with (first | (go_at_call 45;(with_reducible refine (xq.calls kj17 a0_3 true _ A31.out).mono ?_);rintro e w' ⟨rfl,⟨nd,rfl⟩⟩;(try first | exact ⟨rfl,_,World.drewN_drewN _ _ _⟩ | exact ⟨rfl,_,Eq.trans (World.drewN_drewN _ _ _) (congrArg (World.drewN _) (Nat.add_assoc _ _ _))⟩))))
             go_ret
             exact ⟨by first | rfl | (simp [*,jk,jj] <;> rfl),by repeat (first | (with_reducible first | exact HB.out | apply qj | apply qz | apply qk | refine qx ?_ GE101.out) | exact HB.out)⟩
           ·replace c32 := Bool.eq_false_iff.mpr c32
            subst c32
            have H1 : (some false) = some r := by rw [if_neg (show ¬ (false = true) by decide)] at H;exact H
            clear H
            have H := H1
            clear H1
            obtain rfl := Option.some.inj H
            have hcz39_0 : wc.cell? ⟨gb101,0,none⟩ = some (.int .i64 a0_0) := (qw BK101.out 0).trans rfl
            have hcz39_1 : wc.cell? ⟨gb101,1,none⟩ = some (.int .i64 a0_1) := (qw BK101.out 1).trans rfl
            have hcz39_2 : wc.cell? ⟨gb101,2,none⟩ = some (.string a0_2) := (qw BK101.out 2).trans rfl
            have hcz39_3 : wc.cell? ⟨gb101,3,none⟩ = some (.string a0_3) := (qw BK101.out 3).trans rfl
            have hfz39_0 := qv BK101.out 0
            have hfz39_1 := qv BK101.out 1
            have hfz39_2 := qv BK101.out 2
            have hfz39_3 := qv BK101.out 3
            go_wp2_with (first | (go_at_call 45;(with_reducible refine (xq.calls kj17 a0_3 false _ A31.out).mono ?_);rintro e w' ⟨rfl,⟨nd,rfl⟩⟩;(try first | exact ⟨rfl,_,World.drewN_drewN _ _ _⟩ | exact ⟨rfl,_,Eq.trans (World.drewN_drewN _ _ _) (congrArg (World.drewN _) (Nat.add_assoc _ _ _))⟩)))
            repeat (go_quiet (first | (go_at_call 45;(with_reducible refine (xq.calls kj17 a0_3 false _ A31.out).mono ?_);rintro e w' ⟨rfl,⟨nd,rfl⟩⟩;(try first | exact ⟨rfl,_,World.drewN_drewN _ _ _⟩ | exact ⟨rfl,_,Eq.trans (World.drewN_drewN _ _ _) (congrArg (World.drewN _) (Nat.add_assoc _ _ _))⟩)));try go_wp2_with (first | (go_at_call 45;(with_reducible refine (xq.calls kj17 a0_3 false _ A31.out).mono ?_);rintro e w' ⟨rfl,⟨nd,rfl⟩⟩;(try first | exact ⟨rfl,_,World.drewN_drewN _ _ _⟩ | exact ⟨rfl,_,Eq.trans (World.drewN_drewN _ _ _) (congrArg (World.drewN _) (Nat.add_assoc _ _ _))⟩))))
            go_ret
            exact ⟨by first | rfl | (simp [*,jk,jj] <;> rfl),by repeat (first | (with_reducible first | exact HB.out | apply qj | apply qz | apply qk | refine qx ?_ GE101.out) | exact HB.out)⟩
          ·rw [if_neg c30] at H
           have c30b0 : (a0_1 == 0) = false := beq_eq_false_iff_ne.mpr c30
           have c30b1 : (a0_1 != 0) = true := bne_iff_ne.mpr c30
           obtain rfl := Option.some.inj H
           have hcz40_0 : wc.cell? ⟨gb101,0,none⟩ = some (.int .i64 a0_0) := (qw BK101.out 0).trans rfl
           have hcz40_1 : wc.cell? ⟨gb101,1,none⟩ = some (.int .i64 a0_1) := (qw BK101.out 1).trans rfl
           have hcz40_2 : wc.cell? ⟨gb101,2,none⟩ = some (.string a0_2) := (qw BK101.out 2).trans rfl
           have hcz40_3 : wc.cell? ⟨gb101,3,none⟩ = some (.string a0_3) := (qw BK101.out 3).trans rfl
           have hfz40_0 := qv BK101.out 0
           have hfz40_1 := qv BK101.out 1
           have hfz40_2 := qv BK101.out 2
           have hfz40_3 := qv BK101.out 3
           go_wp2
           repeat (go_quiet (fail);try go_wp2)
           go_ret
           exact ⟨by first | rfl | (simp [*,jk,jj] <;> rfl),by repeat (first | (with_reducible first | exact HB.out | apply qj | apply qz | apply qk | refine qx ?_ GE101.out) | exact HB.out)⟩
         ·rw [if_neg c29] at H
          have c29b0 : (a0_0 == 4) = false := beq_eq_false_iff_ne.mpr c29
          have c29b1 : (a0_0 != 4) = true := bne_iff_ne.mpr c29
          by_cases c41 : a0_0 = 6
          ·rw [if_pos c41] at H
           have c41b0 : (a0_0 == 6) = true := beq_iff_eq.mpr c41
           have c41b1 : (a0_0 != 6) = false := bne_eq_false_iff_eq.mpr c41
           clear c41
           by_cases c42 : a0_1 < 0
           ·rw [if_pos c42] at H
            have c42b0 : decide (a0_1 < 0) = true := decide_eq_true c42
            clear c42
            obtain rfl := Option.some.inj H
            have hcz43_0 : wc.cell? ⟨gb101,0,none⟩ = some (.int .i64 a0_0) := (qw BK101.out 0).trans rfl
            have hcz43_1 : wc.cell? ⟨gb101,1,none⟩ = some (.int .i64 a0_1) := (qw BK101.out 1).trans rfl
            have hcz43_2 : wc.cell? ⟨gb101,2,none⟩ = some (.string a0_2) := (qw BK101.out 2).trans rfl
            have hcz43_3 : wc.cell? ⟨gb101,3,none⟩ = some (.string a0_3) := (qw BK101.out 3).trans rfl
            have hfz43_0 := qv BK101.out 0
            have hfz43_1 := qv BK101.out 1
            have hfz43_2 := qv BK101.out 2
            have hfz43_3 := qv BK101.out 3
            go_wp2
            repeat (go_quiet (fail);try go_wp2)
            go_ret
            exact ⟨by first | rfl | (simp [*,jk,jj] <;> rfl),by repeat (first | (with_reducible first | exact HB.out | apply qj | apply qz | apply qk | refine qx ?_ GE101.out) | exact HB.out)⟩
           ·rw [if_neg c42] at H
            have c42b0 : decide (a0_1 < 0) = false := decide_eq_false c42
            clear c42
            replace H := Option.bind_eq_some_iff.mp H
            obtain ⟨t105,A440,H⟩ := H
            replace H : (if (wrap64 (Int.tdiv a0_1 64)) > (wrap64 (t105 - 1)) then (some false) else (if (Int.tmod a0_1 64) > 32 then (some false) else ((xk.f kj17 a0_0 a0_1 a0_2 a0_3).bind fun bt106 => (if bt106.2 = 0 then (none) else (some ((Int.tmod bt106.1 bt106.2) == 0)))))) = some r := H
            have A44 := qq.mk A440
            clear A440
            by_cases c45 : (wrap64 (Int.tdiv a0_1 64)) > (wrap64 (t105 - 1))
            ·rw [if_pos c45] at H
             have c45b0 : decide ((wrap64 (t105 - 1)) < (wrap64 (Int.tdiv a0_1 64))) = true := decide_eq_true c45
             clear c45
             obtain rfl := Option.some.inj H
             have hcz46_0 : wc.cell? ⟨gb101,0,none⟩ = some (.int .i64 a0_0) := (qw BK101.out 0).trans rfl
             have hcz46_1 : wc.cell? ⟨gb101,1,none⟩ = some (.int .i64 a0_1) := (qw BK101.out 1).trans rfl
             have hcz46_2 : wc.cell? ⟨gb101,2,none⟩ = some (.string a0_2) := (qw BK101.out 2).trans rfl
             have hcz46_3 : wc.cell? ⟨gb101,3,none⟩ = some (.string a0_3) := (qw BK101.out 3).trans rfl
             have hfz46_0 := qv BK101.out 0
             have hfz46_1 := qv BK101.out 1
             have hfz46_2 := qv BK101.out 2
             have hfz46_3 := qv BK101.out 3
             go_wp2_with (first | (go_at_call 73;(with_reducible refine (qqq.calls kj17 32 t105 _ A44.out).mono ?_);rintro e w' ⟨rfl,⟨nd,rfl⟩⟩;(try first | exact ⟨rfl,_,World.drewN_drewN _ _ _⟩ | exact ⟨rfl,_,Eq.trans (World.drewN_drewN _ _ _) (congrArg (World.drewN _) (Nat.add_assoc _ _ _))⟩)))
             repeat (go_quiet (first | (go_at_call 73;(with_reducible refine (qqq.calls kj17 32 t105 _ A44.out).mono ?_);rintro e w' ⟨rfl,⟨nd,rfl⟩⟩;(try first | exact ⟨rfl,_,World.drewN_drewN _ _ _⟩ | exact ⟨rfl,_,Eq.trans (World.drewN_drewN _ _ _) (congrArg (World.drewN _) (Nat.add_assoc _ _ _))⟩)));try go_wp2_with (first | (go_at_call 73;(with_reducible refine (qqq.calls kj17 32 t105 _ A44.out).mono ?_);rintro e w' ⟨rfl,⟨nd,rfl⟩⟩;(try first | exact ⟨rfl,_,World.drewN_drewN _ _ _⟩ | exact ⟨rfl,_,Eq.trans (World.drewN_drewN _ _ _) (congrArg (World.drewN _) (Nat.add_assoc _ _ _))⟩))))
             go_ret
             exact ⟨by first | rfl | (simp [*,jk,jj] <;> rfl),by repeat (first | (with_reducible first | exact HB.out | apply qj | apply qz | apply qk | refine qx ?_ GE101.out) | exact HB.out)⟩
            ·rw [if_neg c45] at H
             have c45b0 : decide ((wrap64 (t105 - 1)) < (wrap64 (Int.tdiv a0_1 64))) = false := decide_eq_false c45
             clear c45
             by_cases c47 : (Int.tmod a0_1 64) > 32
             ·rw [if_pos c47] at H
              have c47b0 : decide (32 < (Int.tmod a0_1 64)) = true := decide_eq_true c47
              clear c47
              obtain rfl := Option.some.inj H
              have hcz48_0 : wc.cell? ⟨gb101,0,none⟩ = some (.int .i64 a0_0) := (qw BK101.out 0).trans rfl
              have hcz48_1 : wc.cell? ⟨gb101,1,none⟩ = some (.int .i64 a0_1) := (qw BK101.out 1).trans rfl
              have hcz48_2 : wc.cell? ⟨gb101,2,none⟩ = some (.string a0_2) := (qw BK101.out 2).trans rfl
              have hcz48_3 : wc.cell? ⟨gb101,3,none⟩ = some (.string a0_3) := (qw BK101.out 3).trans rfl
              have hfz48_0 := qv BK101.out 0
              have hfz48_1 := qv BK101.out 1
              have hfz48_2 := qv BK101.out 2
              have hfz48_3 := qv BK101.out 3
              go_wp2_with (first | (go_at_call 73;(with_reducible refine (qqq.calls kj17 32 t105 _ A44.out).mono ?_);rintro e w' ⟨rfl,⟨nd,rfl⟩⟩;(try first | exact ⟨rfl,_,World.drewN_drewN _ _ _⟩ | exact ⟨rfl,_,Eq.trans (World.drewN_drewN _ _ _) (congrArg (World.drewN _) (Nat.add_assoc _ _ _))⟩)))
              repeat (go_quiet (first | (go_at_call 73;(with_reducible refine (qqq.calls kj17 32 t105 _ A44.out).mono ?_);rintro e w' ⟨rfl,⟨nd,rfl⟩⟩;(try first | exact ⟨rfl,_,World.drewN_drewN _ _ _⟩ | exact ⟨rfl,_,Eq.trans (World.drewN_drewN _ _ _) (congrArg (World.drewN _) (Nat.add_assoc _ _ _))⟩)));try go_wp2_with (first | (go_at_call 73;(with_reducible refine (qqq.calls kj17 32 t105 _ A44.out).mono ?_);rintro e w' ⟨rfl,⟨nd,rfl⟩⟩;(try first | exact ⟨rfl,_,World.drewN_drewN _ _ _⟩ | exact ⟨rfl,_,Eq.trans (World.drewN_drewN _ _ _) (congrArg (World.drewN _) (Nat.add_assoc _ _ _))⟩))))
              go_ret
              exact ⟨by first | rfl | (simp [*,jk,jj] <;> rfl),by repeat (first | (with_reducible first | exact HB.out | apply qj | apply qz | apply qk | refine qx ?_ GE101.out) | exact HB.out)⟩
             ·rw [if_neg c47] at H
              have c47b0 : decide (32 < (Int.tmod a0_1 64)) = false := decide_eq_false c47
              clear c47
              replace H := Option.bind_eq_some_iff.mp H
              obtain ⟨⟨t106,t107⟩,A490,H⟩ := H
              replace H : (if t107 = 0 then (none) else (some ((Int.tmod t106 t107) == 0))) = some r := H
              have A49 := qq.mk A490
              clear A490
              by_cases c50 : t107 = 0
              ·rw [if_pos c50] at H
               exact absurd H (by simp)
              ·rw [if_neg c50] at H
               have c50b0 : (t107 == 0) = false := beq_eq_false_iff_ne.mpr c50
               have c50b1 : (t107 != 0) = true := bne_iff_ne.mpr c50
               obtain rfl := Option.some.inj H
               have hcz51_0 : wc.cell? ⟨gb101,0,none⟩ = some (.int .i64 a0_0) := (qw BK101.out 0).trans rfl
               have hcz51_1 : wc.cell? ⟨gb101,1,none⟩ = some (.int .i64 a0_1) := (qw BK101.out 1).trans rfl
               have hcz51_2 : wc.cell? ⟨gb101,2,none⟩ = some (.string a0_2) := (qw BK101.out 2).trans rfl
               have hcz51_3 : wc.cell? ⟨gb101,3,none⟩ = some (.string a0_3) := (qw BK101.out 3).trans rfl
               have hfz51_0 := qv BK101.out 0
               have hfz51_1 := qv BK101.out 1
               have hfz51_2 := qv BK101.out 2
               have hfz51_3 := qv BK101.out 3
               go_wp2_with (first | (go_at_call 73;(with_reducible refine (qqq.calls kj17 32 t105 _ A44.out).mono ?_);rintro e w' ⟨rfl,⟨nd,rfl⟩⟩;(try first | exact ⟨rfl,_,World.drewN_drewN _ _ _⟩ | exact ⟨rfl,_,Eq.trans (World.drewN_drewN _ _ _) (congrArg (World.drewN _) (Nat.add_assoc _ _ _))⟩)) | (go_at_call 50;(with_reducible refine (xk.calls kj17 a0_0 a0_1 a0_2 a0_3 t106 t107 _ A49.out).mono ?_);rintro e w52 ⟨rfl,hb⟩;have n0_ := qq.mk (jx (g := gb101) (o := .cells #[.int .i64 a0_0,.int .i64 a0_1,.string a0_2,.string a0_3] 28 (0,0)) (by (with_reducible repeat (first | refine zz ?_ _ | refine zj ?_ | refine zq ?_ _));exact BK101.out) hb);have n1_ := qq.mk (zv (by repeat (first | (with_reducible first | exact HB.out | apply qj | apply qz | apply qk | refine qx ?_ GE101.out) | exact HB.out)) hb);clear BK101;clear HB;have BK101 := n0_;have HB := n1_;clear n0_ n1_;(try clear hb);(try clear hb2);(try clear hk);(try clear hi)))
               repeat (go_quiet (first | (go_at_call 73;(with_reducible refine (qqq.calls kj17 32 t105 _ A44.out).mono ?_);rintro e w' ⟨rfl,⟨nd,rfl⟩⟩;(try first | exact ⟨rfl,_,World.drewN_drewN _ _ _⟩ | exact ⟨rfl,_,Eq.trans (World.drewN_drewN _ _ _) (congrArg (World.drewN _) (Nat.add_assoc _ _ _))⟩)) | (go_at_call 50;(with_reducible refine (xk.calls kj17 a0_0 a0_1 a0_2 a0_3 t106 t107 _ A49.out).mono ?_);rintro e w52 ⟨rfl,hb⟩;have n0_ := qq.mk (jx (g := gb101) (o := .cells #[.int .i64 a0_0,.int .i64 a0_1,.string a0_2,.string a0_3] 28 (0,0)) (by (with_reducible repeat (first | refine zz ?_ _ | refine zj ?_ | refine zq ?_ _));exact BK101.out) hb);have n1_ := qq.mk (zv (by repeat (first | (with_reducible first | exact HB.out | apply qj | apply qz | apply qk | refine qx ?_ GE101.out) | exact HB.out)) hb);clear BK101;clear HB;have BK101 := n0_;have HB := n1_;clear n0_ n1_;(try clear hb);(try clear hb2);(try clear hk);(try clear hi)));try go_wp2_with (first | (go_at_call 73;(with_reducible refine (qqq.calls kj17 32 t105 _ A44.out).mono ?_);rintro e w' ⟨rfl,⟨nd,rfl⟩⟩;(try first | exact ⟨rfl,_,World.drewN_drewN _ _ _⟩ | exact ⟨rfl,_,Eq.trans (World.drewN_drewN _ _ _) (congrArg (World.drewN _) (Nat.add_assoc _ _ _))⟩)) | (go_at_call 50;(with_reducible refine (xk.calls kj17 a0_0 a0_1 a0_2 a0_3 t106 t107 _ A49.out).mono ?_);rintro e w52 ⟨rfl,hb⟩;have n0_ := qq.mk (jx (g := gb101) (o := .cells #[.int .i64 a0_0,.int .i64 a0_1,.string a0_2,.string a0_3] 28 (0,0)) (by (with_reducible repeat (first | refine zz ?_ _ | refine zj ?_ | refine zq ?_ _));exact BK101.out) hb);have n1_ := qq.mk (zv (by repeat (first | (with_reducible first | exact HB.out | apply qj | apply qz | apply qk | refine qx ?_ GE101.out) | exact HB.out)) hb);clear BK101;clear HB;have BK101 := n0_;have HB := n1_;clear n0_ n1_;(try clear hb);(try clear hb2);(try clear hk);(try clear hi))))
               go_ret
               exact ⟨by first | rfl | (simp [*,jk,jj] <;> rfl),by repeat (first | (with_reducible first | exact HB.out | apply qj | apply qz | apply qk | refine qx ?_ GE101.out) | exact HB.out)⟩
          ·rw [if_neg c41] at H
           have c41b0 : (a0_0 == 6) = false := beq_eq_false_iff_ne.mpr c41
           have c41b1 : (a0_0 != 6) = true := bne_iff_ne.mpr c41
           by_cases c53 : a0_0 = 7
           ·rw [if_pos c53] at H
            have c53b0 : (a0_0 == 7) = true := beq_iff_eq.mpr c53
            have c53b1 : (a0_0 != 7) = false := bne_eq_false_iff_eq.mpr c53
            clear c53
            by_cases c54 : a0_1 ≥ (-100000000000)
            ·rw [if_pos c54] at H
             have c54b0 : decide ((-100000000000) ≤ a0_1) = true := decide_eq_true c54
             clear c54
             obtain rfl := Option.some.inj H
             have hcz55_0 : wc.cell? ⟨gb101,0,none⟩ = some (.int .i64 a0_0) := (qw BK101.out 0).trans rfl
             have hcz55_1 : wc.cell? ⟨gb101,1,none⟩ = some (.int .i64 a0_1) := (qw BK101.out 1).trans rfl
             have hcz55_2 : wc.cell? ⟨gb101,2,none⟩ = some (.string a0_2) := (qw BK101.out 2).trans rfl
             have hcz55_3 : wc.cell? ⟨gb101,3,none⟩ = some (.string a0_3) := (qw BK101.out 3).trans rfl
             have hfz55_0 := qv BK101.out 0
             have hfz55_1 := qv BK101.out 1
             have hfz55_2 := qv BK101.out 2
             have hfz55_3 := qv BK101.out 3
             go_wp2
             repeat (go_quiet (fail);try go_wp2)
             go_ret
             exact ⟨by first | rfl | (simp [*,jk,jj] <;> rfl),by repeat (first | (with_reducible first | exact HB.out | apply qj | apply qz | apply qk | refine qx ?_ GE101.out) | exact HB.out)⟩
            ·rw [if_neg c54] at H
             have c54b0 : decide ((-100000000000) ≤ a0_1) = false := decide_eq_false c54
             clear c54
             obtain rfl := Option.some.inj H
             have hcz56_0 : wc.cell? ⟨gb101,0,none⟩ = some (.int .i64 a0_0) := (qw BK101.out 0).trans rfl
             have hcz56_1 : wc.cell? ⟨gb101,1,none⟩ = some (.int .i64 a0_1) := (qw BK101.out 1).trans rfl
             have hcz56_2 : wc.cell? ⟨gb101,2,none⟩ = some (.string a0_2) := (qw BK101.out 2).trans rfl
             have hcz56_3 : wc.cell? ⟨gb101,3,none⟩ = some (.string a0_3) := (qw BK101.out 3).trans rfl
             have hfz56_0 := qv BK101.out 0
             have hfz56_1 := qv BK101.out 1
             have hfz56_2 := qv BK101.out 2
             have hfz56_3 := qv BK101.out 3
             go_wp2
             repeat (go_quiet (fail);try go_wp2)
             go_ret
             exact ⟨by first | rfl | (simp [*,jk,jj] <;> rfl),by repeat (first | (with_reducible first | exact HB.out | apply qj | apply qz | apply qk | refine qx ?_ GE101.out) | exact HB.out)⟩
           ·rw [if_neg c53] at H
            have c53b0 : (a0_0 == 7) = false := beq_eq_false_iff_ne.mpr c53
            have c53b1 : (a0_0 != 7) = true := bne_iff_ne.mpr c53
            obtain rfl := Option.some.inj H
            go_wp2
            repeat (go_quiet (fail);try go_wp2)
            go_ret
            exact ⟨by first | rfl | (simp [*,jk,jj] <;> rfl),by repeat (first | (with_reducible first | exact HB.out | apply qj | apply qz | apply qk | refine qx ?_ GE101.out) | exact HB.out)⟩
end Go.Proofs.YtnbbbjfjkhglhaaGreatDoor.Pr
namespace Go.Proofs.YtnbbbjfjkhglhaaGreatDoor.Pr
open Go.RowKit Go.Proofs.YtnbbbjfjkhglhaaGreatDoorW.PrintWords Go.Proofs.YtnbbbjfjkhglhaaGreatDoorW.PrintLast Go.Proofs.YtnbbbjfjkhglhaaGreatDoorW.PrintMore
attribute [local go_sem] max2_int min2_int max_two min_two max_three min_three max_four min_four
set_option linter.unusedVariables false
set_option linter.unusedSimpArgs false
def xj.j0 : Nat → Bool → ByteArray → Int → ByteArray → Int → Int → ByteArray → ByteArray → Option (Bool)
 | 0,_,_,_,_,_,_,_,_ => none
 | k + 1,x18,x102000,x102001,x102002,x102003,x102004,x102005,x102006 => if x18 = true then (some false) else (if x102001 = 1 then (if x102003 = 2 then (some true) else (if x102003 = 3 then (some true) else (if x102003 = 5 then (some true) else (some (x102003 == 7))))) else (if x102001 = 2 then (if x102003 = 2 then (some true) else (if x102003 = 3 then (some true) else (if x102003 = 5 then (some true) else (some (x102003 == 7))))) else (if x102001 = 3 then (if x102003 = 2 then (some true) else (if x102003 = 3 then (some true) else (if x102003 = 5 then (some true) else (some (x102003 == 7))))) else (if x102001 = 4 then (some (x102003 == 6)) else (some false)))))
def xj.f (k : Nat) (a0_0 : ByteArray) (a0_1 : Int) (a0_2 : ByteArray) (a0_3 : Int) (a0_4 : Int) (a0_5 : ByteArray) (a0_6 : ByteArray) : Option (Bool) := (xq.f k a0_0).bind fun t102 => (if t102 = true then (if a0_2.toList = ([] : List UInt8) then ((wx.f k a0_3 a0_4 a0_5 a0_6).bind fun t103 => (xj.j0 k (!t103) a0_0 a0_1 a0_2 a0_3 a0_4 a0_5 a0_6)) else (xj.j0 k true a0_0 a0_1 a0_2 a0_3 a0_4 a0_5 a0_6)) else (xj.j0 k true a0_0 a0_1 a0_2 a0_3 a0_4 a0_5 a0_6))
set_option maxHeartbeats 8000000 in
set_option maxRecDepth 100000 in
theorem xj.calls (k : Nat) (a0_0 : ByteArray) (a0_1 : Int) (a0_2 : ByteArray) (a0_3 : Int) (a0_4 : Int) (a0_5 : ByteArray) (a0_6 : ByteArray) (r : Bool) (w : World) (h : xj.f k a0_0 a0_1 a0_2 a0_3 a0_4 a0_5 a0_6 = some r) :
  Calls Tryz.prog 20 #[.agg #[.string a0_0,.int .i64 a0_1,.string a0_2,.int .i64 a0_3,.int .i64 a0_4,.string a0_5,.string a0_6]] w fun e w' => e = .returned (.bool r) ∧ Below w.heap.size w w' := by
 have hu30 := Tryz.underlying30
 have hu28 := Tryz.underlying28
 have HB := qq.mk (Below.refl w.heap.size w)
 have H : ((xq.f k a0_0).bind fun t102 => (if t102 = true then (if a0_2.toList = ([] : List UInt8) then ((wx.f k a0_3 a0_4 a0_5 a0_6).bind fun t103 => (xj.j0 k (!t103) a0_0 a0_1 a0_2 a0_3 a0_4 a0_5 a0_6)) else (xj.j0 k true a0_0 a0_1 a0_2 a0_3 a0_4 a0_5 a0_6)) else (xj.j0 k true a0_0 a0_1 a0_2 a0_3 a0_4 a0_5 a0_6))) = some r := h
 clear h
 have HC2 := qq.mk H
 clear H
 go_enter Tryz.func20,Tryz.ntmps20
 go_upto_region 1 with (first | ((with_reducible refine gate_dst (N := 1) rfl ?_);refine box_event ?hg (N := 1) ?hd (cs := #[.string a0_0,.int .i64 a0_1,.string a0_2,.int .i64 a0_3,.int .i64 a0_4,.string a0_5,.string a0_6]) (t := 30) ?hr ?_;(case hd => rfl);(case hg => rfl);(case hr => first | (go_simp;done) | (go_simp;rfl));intro gb101 hg w3 hbox hb;have n0_ := qq.mk (zv (by repeat (first | (with_reducible first | exact HB.out | apply qj | apply qz | apply qk) | exact HB.out)) hb);have n1_ := qq.mk (hbox);have n2_ := qq.mk ((by rw [hg];exact (zw (by repeat (first | (with_reducible first | exact HB.out | apply qj | apply qz | apply qk) | exact HB.out))) : w.heap.size ≤ gb101));have n3_ := qq.mk ((by rw [hg];exact (zw (by repeat (first | (with_reducible first | exact HB.out | apply qj | apply qz | apply qk) | exact HB.out))) : w.heap.size ≤ gb101));clear HB;have HB := n0_;have BK101 := n1_;have GW101 := n2_;have GE101 := n3_;clear n0_ n1_ n2_ n3_;clear hb hbox hg))
 (try simp only [Act.put,List.setIfInBounds_toArray,List.set_cons_zero,List.set_cons_succ])
 go_cut [18] (fun v18 wc => ∃ (kq : Nat) (x18_1 : Bool),v18 = .bool x18_1 ∧ qq (xj.j0 kq x18_1 a0_0 a0_1 a0_2 a0_3 a0_4 a0_5 a0_6 = some r) ∧ qq (kq ≤ k) ∧ qq (wc.heap[gb101]? = some (.cells #[.string a0_0,.int .i64 a0_1,.string a0_2,.int .i64 a0_3,.int .i64 a0_4,.string a0_5,.string a0_6] 30 (0,0))) ∧ qq (Below w.heap.size w wc))
 case first =>
  have H := HC2.out
  clear HC2
  replace H := Option.bind_eq_some_iff.mp H
  obtain ⟨t102,A40,H⟩ := H
  replace H : (if t102 = true then (if a0_2.toList = ([] : List UInt8) then ((wx.f k a0_3 a0_4 a0_5 a0_6).bind fun t103 => (xj.j0 k (!t103) a0_0 a0_1 a0_2 a0_3 a0_4 a0_5 a0_6)) else (xj.j0 k true a0_0 a0_1 a0_2 a0_3 a0_4 a0_5 a0_6)) else (xj.j0 k true a0_0 a0_1 a0_2 a0_3 a0_4 a0_5 a0_6)) = some r := H
  have A4 := qq.mk A40
  clear A40
  by_cases c5 : t102 = true
  ·subst c5
   have H1 : (if a0_2.toList = ([] : List UInt8) then ((wx.f k a0_3 a0_4 a0_5 a0_6).bind fun t103 => (xj.j0 k (!t103) a0_0 a0_1 a0_2 a0_3 a0_4 a0_5 a0_6)) else (xj.j0 k true a0_0 a0_1 a0_2 a0_3 a0_4 a0_5 a0_6)) = some r := by rw [if_pos rfl] at H;exact H
   clear H
   have H := H1
   clear H1
   by_cases c6 : a0_2.toList = ([] : List UInt8)
   ·rw [if_pos c6] at H
    have c6b0 : (a0_2.toList == ([] : List UInt8)) = true := beq_iff_eq.mpr c6
    have c6b1 : (a0_2.toList != ([] : List UInt8)) = false := bne_eq_false_iff_eq.mpr c6
    clear c6
    (first | rw [c6b0] | (simp only [i64_w,i32_w];rw [c6b0]) | skip)
    replace H := Option.bind_eq_some_iff.mp H
    obtain ⟨t103,A70,H⟩ := H
    replace H : (xj.j0 k (!t103) a0_0 a0_1 a0_2 a0_3 a0_4 a0_5 a0_6) = some r := H
    have A7 := qq.mk A70
    clear A70
    have H' := qq.mk H
    clear H
    have hcz8_0 : w3.cell? ⟨gb101,0,none⟩ = some (.string a0_0) := (qw BK101.out 0).trans rfl
    have hcz8_1 : w3.cell? ⟨gb101,1,none⟩ = some (.int .i64 a0_1) := (qw BK101.out 1).trans rfl
    have hcz8_2 : w3.cell? ⟨gb101,2,none⟩ = some (.string a0_2) := (qw BK101.out 2).trans rfl
    have hcz8_3 : w3.cell? ⟨gb101,3,none⟩ = some (.int .i64 a0_3) := (qw BK101.out 3).trans rfl
    have hcz8_4 : w3.cell? ⟨gb101,4,none⟩ = some (.int .i64 a0_4) := (qw BK101.out 4).trans rfl
    have hcz8_5 : w3.cell? ⟨gb101,5,none⟩ = some (.string a0_5) := (qw BK101.out 5).trans rfl
    have hcz8_6 : w3.cell? ⟨gb101,6,none⟩ = some (.string a0_6) := (qw BK101.out 6).trans rfl
    have hfz8_0 := qv BK101.out 0
    have hfz8_1 := qv BK101.out 1
    have hfz8_2 := qv BK101.out 2
    have hfz8_3 := qv BK101.out 3
    have hfz8_4 := qv BK101.out 4
    have hfz8_5 := qv BK101.out 5
    have hfz8_6 := qv BK101.out 6
    go_wp2_with (first | ((with_reducible refine jv (f := 45) rfl ?_);refine goesL_ (some 6) rfl rfl Tryz.func45 (by kernel_rfl) rfl #[.string a0_0] rfl (by (try simp only [List.map_toArray,List.map_cons,List.map_nil]);first | done | rfl | (simp only [List.length_drop,List.length_take];rfl)) ?_;(with_reducible refine (xq.calls k a0_0 true _ A4.out).mono ?_);rintro e w' ⟨rfl,⟨nd,rfl⟩⟩;refine ⟨_,rfl,?_⟩) | (go_at_call 46;(with_reducible refine (wx.calls k a0_3 a0_4 a0_5 a0_6 t103 _ A7.out).mono ?_);rintro e w9 ⟨rfl,hb⟩;have n0_ := qq.mk (jx (g := gb101) (o := .cells #[.string a0_0,.int .i64 a0_1,.string a0_2,.int .i64 a0_3,.int .i64 a0_4,.string a0_5,.string a0_6] 30 (0,0)) (by (with_reducible repeat (first | refine zz ?_ _ | refine zj ?_ | refine zq ?_ _));exact BK101.out) hb);have n1_ := qq.mk (zv (by repeat (first | (with_reducible first | exact HB.out | apply qj | apply qz | apply qk | refine qx ?_ GE101.out) | exact HB.out)) hb);clear BK101;clear HB;have BK101 := n0_;have HB := n1_;clear n0_ n1_;(try clear hb);(try clear hb2);(try clear hk);(try clear hi)))
    go_meet
    case rel => exact ⟨_,(!t103),(by first | rfl | (simp;done) | (simp [*];done) | (generalize ByteArray.toList _ = l_;cases l_ <;> first | rfl | (simp;done))),H',⟨by first | omega | exact Nat.le_refl _⟩,⟨by (with_reducible repeat (first | refine zz ?_ _ | refine zj ?_ | refine zq ?_ _));exact BK101.out⟩,⟨by repeat (first | (with_reducible first | exact HB.out | apply qj | apply qz | apply qk | refine qx ?_ GE101.out) | exact HB.out)⟩⟩
   ·rw [if_neg c6] at H
    have c6b0 : (a0_2.toList == ([] : List UInt8)) = false := beq_eq_false_iff_ne.mpr c6
    have c6b1 : (a0_2.toList != ([] : List UInt8)) = true := bne_iff_ne.mpr c6
    (first | rw [c6b0] | (simp only [i64_w,i32_w];rw [c6b0]) | skip)
    have H' := qq.mk H
    clear H
    have hcz10_0 : w3.cell? ⟨gb101,0,none⟩ = some (.string a0_0) := (qw BK101.out 0).trans rfl
    have hcz10_1 : w3.cell? ⟨gb101,1,none⟩ = some (.int .i64 a0_1) := (qw BK101.out 1).trans rfl
    have hcz10_2 : w3.cell? ⟨gb101,2,none⟩ = some (.string a0_2) := (qw BK101.out 2).trans rfl
    have hcz10_3 : w3.cell? ⟨gb101,3,none⟩ = some (.int .i64 a0_3) := (qw BK101.out 3).trans rfl
    have hcz10_4 : w3.cell? ⟨gb101,4,none⟩ = some (.int .i64 a0_4) := (qw BK101.out 4).trans rfl
    have hcz10_5 : w3.cell? ⟨gb101,5,none⟩ = some (.string a0_5) := (qw BK101.out 5).trans rfl
    have hcz10_6 : w3.cell? ⟨gb101,6,none⟩ = some (.string a0_6) := (qw BK101.out 6).trans rfl
    have hfz10_0 := qv BK101.out 0
    have hfz10_1 := qv BK101.out 1
    have hfz10_2 := qv BK101.out 2
    have hfz10_3 := qv BK101.out 3
    have hfz10_4 := qv BK101.out 4
    have hfz10_5 := qv BK101.out 5
    have hfz10_6 := qv BK101.out 6
    go_wp2_with (first | ((with_reducible refine jv (f := 45) rfl ?_);refine goesL_ (some 6) rfl rfl Tryz.func45 (by kernel_rfl) rfl #[.string a0_0] rfl (by (try simp only [List.map_toArray,List.map_cons,List.map_nil]);first | done | rfl | (simp only [List.length_drop,List.length_take];rfl)) ?_;(with_reducible refine (xq.calls k a0_0 true _ A4.out).mono ?_);rintro e w' ⟨rfl,⟨nd,rfl⟩⟩;refine ⟨_,rfl,?_⟩))
    go_meet
    case rel => exact ⟨_,(true),(by first | rfl | (simp;done) | (simp [*];done) | (generalize ByteArray.toList _ = l_;cases l_ <;> first | rfl | (simp;done))),H',⟨by first | omega | exact Nat.le_refl _⟩,⟨by (with_reducible repeat (first | refine zz ?_ _ | refine zj ?_ | refine zq ?_ _));exact BK101.out⟩,⟨by repeat (first | (with_reducible first | exact HB.out | apply qj | apply qz | apply qk | refine qx ?_ GE101.out) | exact HB.out)⟩⟩
  ·replace c5 := Bool.eq_false_iff.mpr c5
   subst c5
   have H1 : (xj.j0 k true a0_0 a0_1 a0_2 a0_3 a0_4 a0_5 a0_6) = some r := by rw [if_neg (show ¬ (false = true) by decide)] at H;exact H
   clear H
   have H := H1
   clear H1
   have H' := qq.mk H
   clear H
   have hcz11_0 : w3.cell? ⟨gb101,0,none⟩ = some (.string a0_0) := (qw BK101.out 0).trans rfl
   have hcz11_1 : w3.cell? ⟨gb101,1,none⟩ = some (.int .i64 a0_1) := (qw BK101.out 1).trans rfl
   have hcz11_2 : w3.cell? ⟨gb101,2,none⟩ = some (.string a0_2) := (qw BK101.out 2).trans rfl
   have hcz11_3 : w3.cell? ⟨gb101,3,none⟩ = some (.int .i64 a0_3) := (qw BK101.out 3).trans rfl
   have hcz11_4 : w3.cell? ⟨gb101,4,none⟩ = some (.int .i64 a0_4) := (qw BK101.out 4).trans rfl
   have hcz11_5 : w3.cell? ⟨gb101,5,none⟩ = some (.string a0_5) := (qw BK101.out 5).trans rfl
   have hcz11_6 : w3.cell? ⟨gb101,6,none⟩ = some (.string a0_6) := (qw BK101.out 6).trans rfl
   have hfz11_0 := qv BK101.out 0
   have hfz11_1 := qv BK101.out 1
   have hfz11_2 := qv BK101.out 2
   have hfz11_3 := qv BK101.out 3
   have hfz11_4 := qv BK101.out 4
   have hfz11_5 := qv BK101.out 5
   have hfz11_6 := qv BK101.out 6
   go_wp2_with (first | ((with_reducible refine jv (f := 45) rfl ?_);refine goesL_ (some 6) rfl rfl Tryz.func45 (by kernel_rfl) rfl #[.string a0_0] rfl (by (try simp only [List.map_toArray,List.map_cons,List.map_nil]);first | done | rfl | (simp only [List.length_drop,List.length_take];rfl)) ?_;(with_reducible refine (xq.calls k a0_0 false _ A4.out).mono ?_);rintro e w' ⟨rfl,⟨nd,rfl⟩⟩;refine ⟨_,rfl,?_⟩))
   go_meet
   case rel => exact ⟨_,(true),(by first | rfl | (simp;done) | (simp [*];done) | (generalize ByteArray.toList _ = l_;cases l_ <;> first | rfl | (simp;done))),H',⟨by first | omega | exact Nat.le_refl _⟩,⟨by (with_reducible repeat (first | refine zz ?_ _ | refine zj ?_ | refine zq ?_ _));exact BK101.out⟩,⟨by repeat (first | (with_reducible first | exact HB.out | apply qj | apply qz | apply qk | refine qx ?_ GE101.out) | exact HB.out)⟩⟩
 case rest =>
  clear HC2
  try clear c2
  try clear p2
  try clear c4
  try clear c5
  try clear c6
  try clear c6b0
  try clear c6b1
  try clear hcz10_0
  try clear hcz10_1
  try clear hcz10_2
  try clear hcz10_3
  try clear hcz10_4
  try clear hcz10_5
  try clear hcz10_6
  try clear hcz11_0
  try clear hcz11_1
  try clear hcz11_2
  try clear hcz11_3
  try clear hcz11_4
  try clear hcz11_5
  try clear hcz11_6
  try clear hcz8_0
  try clear hcz8_1
  try clear hcz8_2
  try clear hcz8_3
  try clear hcz8_4
  try clear hcz8_5
  try clear hcz8_6
  try clear hfz10_0
  try clear hfz10_1
  try clear hfz10_2
  try clear hfz10_3
  try clear hfz10_4
  try clear hfz10_5
  try clear hfz10_6
  try clear hfz11_0
  try clear hfz11_1
  try clear hfz11_2
  try clear hfz11_3
  try clear hfz11_4
  try clear hfz11_5
  try clear hfz11_6
  try clear hfz8_0
  try clear hfz8_1
  try clear hfz8_2
  try clear hfz8_3
  try clear hfz8_4
  try clear hfz8_5
  try clear hfz8_6
  obtain ⟨kq,x18_1,rfl,HA,HJ1,BK101,HB⟩ := hcut
  cases kq with
  | zero => exact absurd HA.out (by simp [xj.j0])
  | succ kj1 =>
   have H := HA.out
   clear HA
   simp only [xj.j0] at H
   by_cases c12 : x18_1 = true
   ·subst c12
    have H1 : (some false) = some r := by rw [if_pos rfl] at H;exact H
    clear H
    have H := H1
    clear H1
    obtain rfl := Option.some.inj H
    go_wp2
    go_ret
    exact ⟨by first | rfl | (simp [*,jk,jj] <;> rfl),by repeat (first | (with_reducible first | exact HB.out | apply qj | apply qz | apply qk | refine qx ?_ GE101.out) | exact HB.out)⟩
   ·replace c12 := Bool.eq_false_iff.mpr c12
    subst c12
    have H1 : (if a0_1 = 1 then (if a0_3 = 2 then (some true) else (if a0_3 = 3 then (some true) else (if a0_3 = 5 then (some true) else (some (a0_3 == 7))))) else (if a0_1 = 2 then (if a0_3 = 2 then (some true) else (if a0_3 = 3 then (some true) else (if a0_3 = 5 then (some true) else (some (a0_3 == 7))))) else (if a0_1 = 3 then (if a0_3 = 2 then (some true) else (if a0_3 = 3 then (some true) else (if a0_3 = 5 then (some true) else (some (a0_3 == 7))))) else (if a0_1 = 4 then (some (a0_3 == 6)) else (some false))))) = some r := by rw [if_neg (show ¬ (false = true) by decide)] at H;exact H
    clear H
    have H := H1
    clear H1
    by_cases c13 : a0_1 = 1
    ·rw [if_pos c13] at H
     have c13b0 : (a0_1 == 1) = true := beq_iff_eq.mpr c13
     have c13b1 : (a0_1 != 1) = false := bne_eq_false_iff_eq.mpr c13
     clear c13
     by_cases c14 : a0_3 = 2
     ·rw [if_pos c14] at H
      have c14b0 : (a0_3 == 2) = true := beq_iff_eq.mpr c14
      have c14b1 : (a0_3 != 2) = false := bne_eq_false_iff_eq.mpr c14
      clear c14
      obtain rfl := Option.some.inj H
      have hcz15_0 : wc.cell? ⟨gb101,0,none⟩ = some (.string a0_0) := (qw BK101.out 0).trans rfl
      have hcz15_1 : wc.cell? ⟨gb101,1,none⟩ = some (.int .i64 a0_1) := (qw BK101.out 1).trans rfl
      have hcz15_2 : wc.cell? ⟨gb101,2,none⟩ = some (.string a0_2) := (qw BK101.out 2).trans rfl
      have hcz15_3 : wc.cell? ⟨gb101,3,none⟩ = some (.int .i64 a0_3) := (qw BK101.out 3).trans rfl
      have hcz15_4 : wc.cell? ⟨gb101,4,none⟩ = some (.int .i64 a0_4) := (qw BK101.out 4).trans rfl
      have hcz15_5 : wc.cell? ⟨gb101,5,none⟩ = some (.string a0_5) := (qw BK101.out 5).trans rfl
      have hcz15_6 : wc.cell? ⟨gb101,6,none⟩ = some (.string a0_6) := (qw BK101.out 6).trans rfl
      have hfz15_0 := qv BK101.out 0
      have hfz15_1 := qv BK101.out 1
      have hfz15_2 := qv BK101.out 2
      have hfz15_3 := qv BK101.out 3
      have hfz15_4 := qv BK101.out 4
      have hfz15_5 := qv BK101.out 5
      have hfz15_6 := qv BK101.out 6
      go_wp2
      go_ret
      exact ⟨by first | rfl | (simp [*,jk,jj] <;> rfl),by repeat (first | (with_reducible first | exact HB.out | apply qj | apply qz | apply qk | refine qx ?_ GE101.out) | exact HB.out)⟩
     ·rw [if_neg c14] at H
      have c14b0 : (a0_3 == 2) = false := beq_eq_false_iff_ne.mpr c14
      have c14b1 : (a0_3 != 2) = true := bne_iff_ne.mpr c14
      by_cases c16 : a0_3 = 3
      ·rw [if_pos c16] at H
       have c16b0 : (a0_3 == 3) = true := beq_iff_eq.mpr c16
       have c16b1 : (a0_3 != 3) = false := bne_eq_false_iff_eq.mpr c16
       clear c16
       obtain rfl := Option.some.inj H
       have hcz17_0 : wc.cell? ⟨gb101,0,none⟩ = some (.string a0_0) := (qw BK101.out 0).trans rfl
       have hcz17_1 : wc.cell? ⟨gb101,1,none⟩ = some (.int .i64 a0_1) := (qw BK101.out 1).trans rfl
       have hcz17_2 : wc.cell? ⟨gb101,2,none⟩ = some (.string a0_2) := (qw BK101.out 2).trans rfl
       have hcz17_3 : wc.cell? ⟨gb101,3,none⟩ = some (.int .i64 a0_3) := (qw BK101.out 3).trans rfl
       have hcz17_4 : wc.cell? ⟨gb101,4,none⟩ = some (.int .i64 a0_4) := (qw BK101.out 4).trans rfl
       have hcz17_5 : wc.cell? ⟨gb101,5,none⟩ = some (.string a0_5) := (qw BK101.out 5).trans rfl
       have hcz17_6 : wc.cell? ⟨gb101,6,none⟩ = some (.string a0_6) := (qw BK101.out 6).trans rfl
       have hfz17_0 := qv BK101.out 0
       have hfz17_1 := qv BK101.out 1
       have hfz17_2 := qv BK101.out 2
       have hfz17_3 := qv BK101.out 3
       have hfz17_4 := qv BK101.out 4
       have hfz17_5 := qv BK101.out 5
       have hfz17_6 := qv BK101.out 6
       go_wp2
       go_ret
       exact ⟨by first | rfl | (simp [*,jk,jj] <;> rfl),by repeat (first | (with_reducible first | exact HB.out | apply qj | apply qz | apply qk | refine qx ?_ GE101.out) | exact HB.out)⟩
      ·rw [if_neg c16] at H
       have c16b0 : (a0_3 == 3) = false := beq_eq_false_iff_ne.mpr c16
       have c16b1 : (a0_3 != 3) = true := bne_iff_ne.mpr c16
       by_cases c18 : a0_3 = 5
       ·rw [if_pos c18] at H
        have c18b0 : (a0_3 == 5) = true := beq_iff_eq.mpr c18
        have c18b1 : (a0_3 != 5) = false := bne_eq_false_iff_eq.mpr c18
        clear c18
        obtain rfl := Option.some.inj H
        have hcz19_0 : wc.cell? ⟨gb101,0,none⟩ = some (.string a0_0) := (qw BK101.out 0).trans rfl
        have hcz19_1 : wc.cell? ⟨gb101,1,none⟩ = some (.int .i64 a0_1) := (qw BK101.out 1).trans rfl
        have hcz19_2 : wc.cell? ⟨gb101,2,none⟩ = some (.string a0_2) := (qw BK101.out 2).trans rfl
        have hcz19_3 : wc.cell? ⟨gb101,3,none⟩ = some (.int .i64 a0_3) := (qw BK101.out 3).trans rfl
        have hcz19_4 : wc.cell? ⟨gb101,4,none⟩ = some (.int .i64 a0_4) := (qw BK101.out 4).trans rfl
        have hcz19_5 : wc.cell? ⟨gb101,5,none⟩ = some (.string a0_5) := (qw BK101.out 5).trans rfl
        have hcz19_6 : wc.cell? ⟨gb101,6,none⟩ = some (.string a0_6) := (qw BK101.out 6).trans rfl
        have hfz19_0 := qv BK101.out 0
        have hfz19_1 := qv BK101.out 1
        have hfz19_2 := qv BK101.out 2
        have hfz19_3 := qv BK101.out 3
        have hfz19_4 := qv BK101.out 4
        have hfz19_5 := qv BK101.out 5
        have hfz19_6 := qv BK101.out 6
        go_wp2
        go_ret
        exact ⟨by first | rfl | (simp [*,jk,jj] <;> rfl),by repeat (first | (with_reducible first | exact HB.out | apply qj | apply qz | apply qk | refine qx ?_ GE101.out) | exact HB.out)⟩
       ·rw [if_neg c18] at H
        have c18b0 : (a0_3 == 5) = false := beq_eq_false_iff_ne.mpr c18
        have c18b1 : (a0_3 != 5) = true := bne_iff_ne.mpr c18
        obtain rfl := Option.some.inj H
        have hcz20_0 : wc.cell? ⟨gb101,0,none⟩ = some (.string a0_0) := (qw BK101.out 0).trans rfl
        have hcz20_1 : wc.cell? ⟨gb101,1,none⟩ = some (.int .i64 a0_1) := (qw BK101.out 1).trans rfl
        have hcz20_2 : wc.cell? ⟨gb101,2,none⟩ = some (.string a0_2) := (qw BK101.out 2).trans rfl
        have hcz20_3 : wc.cell? ⟨gb101,3,none⟩ = some (.int .i64 a0_3) := (qw BK101.out 3).trans rfl
        have hcz20_4 : wc.cell? ⟨gb101,4,none⟩ = some (.int .i64 a0_4) := (qw BK101.out 4).trans rfl
        have hcz20_5 : wc.cell? ⟨gb101,5,none⟩ = some (.string a0_5) := (qw BK101.out 5).trans rfl
        have hcz20_6 : wc.cell? ⟨gb101,6,none⟩ = some (.string a0_6) := (qw BK101.out 6).trans rfl
        have hfz20_0 := qv BK101.out 0
        have hfz20_1 := qv BK101.out 1
        have hfz20_2 := qv BK101.out 2
        have hfz20_3 := qv BK101.out 3
        have hfz20_4 := qv BK101.out 4
        have hfz20_5 := qv BK101.out 5
        have hfz20_6 := qv BK101.out 6
        go_wp2
        go_ret
        exact ⟨by first | rfl | (simp [*,jk,jj] <;> rfl),by repeat (first | (with_reducible first | exact HB.out | apply qj | apply qz | apply qk | refine qx ?_ GE101.out) | exact HB.out)⟩
    ·rw [if_neg c13] at H
     have c13b0 : (a0_1 == 1) = false := beq_eq_false_iff_ne.mpr c13
     have c13b1 : (a0_1 != 1) = true := bne_iff_ne.mpr c13
     by_cases c21 : a0_1 = 2
     ·rw [if_pos c21] at H
      have c21b0 : (a0_1 == 2) = true := beq_iff_eq.mpr c21
      have c21b1 : (a0_1 != 2) = false := bne_eq_false_iff_eq.mpr c21
      clear c21
      by_cases c22 : a0_3 = 2
      ·rw [if_pos c22] at H
       have c22b0 : (a0_3 == 2) = true := beq_iff_eq.mpr c22
       have c22b1 : (a0_3 != 2) = false := bne_eq_false_iff_eq.mpr c22
       clear c22
       obtain rfl := Option.some.inj H
       have hcz23_0 : wc.cell? ⟨gb101,0,none⟩ = some (.string a0_0) := (qw BK101.out 0).trans rfl
       have hcz23_1 : wc.cell? ⟨gb101,1,none⟩ = some (.int .i64 a0_1) := (qw BK101.out 1).trans rfl
       have hcz23_2 : wc.cell? ⟨gb101,2,none⟩ = some (.string a0_2) := (qw BK101.out 2).trans rfl
       have hcz23_3 : wc.cell? ⟨gb101,3,none⟩ = some (.int .i64 a0_3) := (qw BK101.out 3).trans rfl
       have hcz23_4 : wc.cell? ⟨gb101,4,none⟩ = some (.int .i64 a0_4) := (qw BK101.out 4).trans rfl
       have hcz23_5 : wc.cell? ⟨gb101,5,none⟩ = some (.string a0_5) := (qw BK101.out 5).trans rfl
       have hcz23_6 : wc.cell? ⟨gb101,6,none⟩ = some (.string a0_6) := (qw BK101.out 6).trans rfl
       have hfz23_0 := qv BK101.out 0
       have hfz23_1 := qv BK101.out 1
       have hfz23_2 := qv BK101.out 2
       have hfz23_3 := qv BK101.out 3
       have hfz23_4 := qv BK101.out 4
       have hfz23_5 := qv BK101.out 5
       have hfz23_6 := qv BK101.out 6
       go_wp2
       go_ret
       exact ⟨by first | rfl | (simp [*,jk,jj] <;> rfl),by repeat (first | (with_reducible first | exact HB.out | apply qj | apply qz | apply qk | refine qx ?_ GE101.out) | exact HB.out)⟩
      ·rw [if_neg c22] at H
       have c22b0 : (a0_3 == 2) = false := beq_eq_false_iff_ne.mpr c22
       have c22b1 : (a0_3 != 2) = true := bne_iff_ne.mpr c22
       by_cases c24 : a0_3 = 3
       ·rw [if_pos c24] at H
        have c24b0 : (a0_3 == 3) = true := beq_iff_eq.mpr c24
        have c24b1 : (a0_3 != 3) = false := bne_eq_false_iff_eq.mpr c24
        clear c24
        obtain rfl := Option.some.inj H
        have hcz25_0 : wc.cell? ⟨gb101,0,none⟩ = some (.string a0_0) := (qw BK101.out 0).trans rfl
        have hcz25_1 : wc.cell? ⟨gb101,1,none⟩ = some (.int .i64 a0_1) := (qw BK101.out 1).trans rfl
        have hcz25_2 : wc.cell? ⟨gb101,2,none⟩ = some (.string a0_2) := (qw BK101.out 2).trans rfl
        have hcz25_3 : wc.cell? ⟨gb101,3,none⟩ = some (.int .i64 a0_3) := (qw BK101.out 3).trans rfl
        have hcz25_4 : wc.cell? ⟨gb101,4,none⟩ = some (.int .i64 a0_4) := (qw BK101.out 4).trans rfl
        have hcz25_5 : wc.cell? ⟨gb101,5,none⟩ = some (.string a0_5) := (qw BK101.out 5).trans rfl
        have hcz25_6 : wc.cell? ⟨gb101,6,none⟩ = some (.string a0_6) := (qw BK101.out 6).trans rfl
        have hfz25_0 := qv BK101.out 0
        have hfz25_1 := qv BK101.out 1
        have hfz25_2 := qv BK101.out 2
        have hfz25_3 := qv BK101.out 3
        have hfz25_4 := qv BK101.out 4
        have hfz25_5 := qv BK101.out 5
        have hfz25_6 := qv BK101.out 6
        go_wp2
        go_ret
        exact ⟨by first | rfl | (simp [*,jk,jj] <;> rfl),by repeat (first | (with_reducible first | exact HB.out | apply qj | apply qz | apply qk | refine qx ?_ GE101.out) | exact HB.out)⟩
       ·rw [if_neg c24] at H
        have c24b0 : (a0_3 == 3) = false := beq_eq_false_iff_ne.mpr c24
        have c24b1 : (a0_3 != 3) = true := bne_iff_ne.mpr c24
        by_cases c26 : a0_3 = 5
        ·rw [if_pos c26] at H
         have c26b0 : (a0_3 == 5) = true := beq_iff_eq.mpr c26
         have c26b1 : (a0_3 != 5) = false := bne_eq_false_iff_eq.mpr c26
         clear c26
         obtain rfl := Option.some.inj H
         have hcz27_0 : wc.cell? ⟨gb101,0,none⟩ = some (.string a0_0) := (qw BK101.out 0).trans rfl
         have hcz27_1 : wc.cell? ⟨gb101,1,none⟩ = some (.int .i64 a0_1) := (qw BK101.out 1).trans rfl
         have hcz27_2 : wc.cell? ⟨gb101,2,none⟩ = some (.string a0_2) := (qw BK101.out 2).trans rfl
         have hcz27_3 : wc.cell? ⟨gb101,3,none⟩ = some (.int .i64 a0_3) := (qw BK101.out 3).trans rfl
         have hcz27_4 : wc.cell? ⟨gb101,4,none⟩ = some (.int .i64 a0_4) := (qw BK101.out 4).trans rfl
         have hcz27_5 : wc.cell? ⟨gb101,5,none⟩ = some (.string a0_5) := (qw BK101.out 5).trans rfl
         have hcz27_6 : wc.cell? ⟨gb101,6,none⟩ = some (.string a0_6) := (qw BK101.out 6).trans rfl
         have hfz27_0 := qv BK101.out 0
         have hfz27_1 := qv BK101.out 1
         have hfz27_2 := qv BK101.out 2
         have hfz27_3 := qv BK101.out 3
         have hfz27_4 := qv BK101.out 4
         have hfz27_5 := qv BK101.out 5
         have hfz27_6 := qv BK101.out 6
         go_wp2
         go_ret
         exact ⟨by first | rfl | (simp [*,jk,jj] <;> rfl),by repeat (first | (with_reducible first | exact HB.out | apply qj | apply qz | apply qk | refine qx ?_ GE101.out) | exact HB.out)⟩
        ·rw [if_neg c26] at H
         have c26b0 : (a0_3 == 5) = false := beq_eq_false_iff_ne.mpr c26
         have c26b1 : (a0_3 != 5) = true := bne_iff_ne.mpr c26
         obtain rfl := Option.some.inj H
         have hcz28_0 : wc.cell? ⟨gb101,0,none⟩ = some (.string a0_0) := (qw BK101.out 0).trans rfl
         have hcz28_1 : wc.cell? ⟨gb101,1,none⟩ = some (.int .i64 a0_1) := (qw BK101.out 1).trans rfl
         have hcz28_2 : wc.cell? ⟨gb101,2,none⟩ = some (.string a0_2) := (qw BK101.out 2).trans rfl
         have hcz28_3 : wc.cell? ⟨gb101,3,none⟩ = some (.int .i64 a0_3) := (qw BK101.out 3).trans rfl
         have hcz28_4 : wc.cell? ⟨gb101,4,none⟩ = some (.int .i64 a0_4) := (qw BK101.out 4).trans rfl
         have hcz28_5 : wc.cell? ⟨gb101,5,none⟩ = some (.string a0_5) := (qw BK101.out 5).trans rfl
         have hcz28_6 : wc.cell? ⟨gb101,6,none⟩ = some (.string a0_6) := (qw BK101.out 6).trans rfl
         have hfz28_0 := qv BK101.out 0
         have hfz28_1 := qv BK101.out 1
         have hfz28_2 := qv BK101.out 2
         have hfz28_3 := qv BK101.out 3
         have hfz28_4 := qv BK101.out 4
         have hfz28_5 := qv BK101.out 5
         have hfz28_6 := qv BK101.out 6
         go_wp2
         go_ret
         exact ⟨by first | rfl | (simp [*,jk,jj] <;> rfl),by repeat (first | (with_reducible first | exact HB.out | apply qj | apply qz | apply qk | refine qx ?_ GE101.out) | exact HB.out)⟩
     ·rw [if_neg c21] at H
      have c21b0 : (a0_1 == 2) = false := beq_eq_false_iff_ne.mpr c21
      have c21b1 : (a0_1 != 2) = true := bne_iff_ne.mpr c21
      by_cases c29 : a0_1 = 3
      ·rw [if_pos c29] at H
       have c29b0 : (a0_1 == 3) = true := beq_iff_eq.mpr c29
       have c29b1 : (a0_1 != 3) = false := bne_eq_false_iff_eq.mpr c29
       clear c29
       by_cases c30 : a0_3 = 2
       ·rw [if_pos c30] at H
        have c30b0 : (a0_3 == 2) = true := beq_iff_eq.mpr c30
        have c30b1 : (a0_3 != 2) = false := bne_eq_false_iff_eq.mpr c30
        clear c30
        obtain rfl := Option.some.inj H
        have hcz31_0 : wc.cell? ⟨gb101,0,none⟩ = some (.string a0_0) := (qw BK101.out 0).trans rfl
        have hcz31_1 : wc.cell? ⟨gb101,1,none⟩ = some (.int .i64 a0_1) := (qw BK101.out 1).trans rfl
        have hcz31_2 : wc.cell? ⟨gb101,2,none⟩ = some (.string a0_2) := (qw BK101.out 2).trans rfl
        have hcz31_3 : wc.cell? ⟨gb101,3,none⟩ = some (.int .i64 a0_3) := (qw BK101.out 3).trans rfl
        have hcz31_4 : wc.cell? ⟨gb101,4,none⟩ = some (.int .i64 a0_4) := (qw BK101.out 4).trans rfl
        have hcz31_5 : wc.cell? ⟨gb101,5,none⟩ = some (.string a0_5) := (qw BK101.out 5).trans rfl
        have hcz31_6 : wc.cell? ⟨gb101,6,none⟩ = some (.string a0_6) := (qw BK101.out 6).trans rfl
        have hfz31_0 := qv BK101.out 0
        have hfz31_1 := qv BK101.out 1
        have hfz31_2 := qv BK101.out 2
        have hfz31_3 := qv BK101.out 3
        have hfz31_4 := qv BK101.out 4
        have hfz31_5 := qv BK101.out 5
        have hfz31_6 := qv BK101.out 6
        go_wp2
        go_ret
        exact ⟨by first | rfl | (simp [*,jk,jj] <;> rfl),by repeat (first | (with_reducible first | exact HB.out | apply qj | apply qz | apply qk | refine qx ?_ GE101.out) | exact HB.out)⟩
       ·rw [if_neg c30] at H
        have c30b0 : (a0_3 == 2) = false := beq_eq_false_iff_ne.mpr c30
        have c30b1 : (a0_3 != 2) = true := bne_iff_ne.mpr c30
        by_cases c32 : a0_3 = 3
        ·rw [if_pos c32] at H
         have c32b0 : (a0_3 == 3) = true := beq_iff_eq.mpr c32
         have c32b1 : (a0_3 != 3) = false := bne_eq_false_iff_eq.mpr c32
         clear c32
         obtain rfl := Option.some.inj H
         have hcz33_0 : wc.cell? ⟨gb101,0,none⟩ = some (.string a0_0) := (qw BK101.out 0).trans rfl
         have hcz33_1 : wc.cell? ⟨gb101,1,none⟩ = some (.int .i64 a0_1) := (qw BK101.out 1).trans rfl
         have hcz33_2 : wc.cell? ⟨gb101,2,none⟩ = some (.string a0_2) := (qw BK101.out 2).trans rfl
         have hcz33_3 : wc.cell? ⟨gb101,3,none⟩ = some (.int .i64 a0_3) := (qw BK101.out 3).trans rfl
         have hcz33_4 : wc.cell? ⟨gb101,4,none⟩ = some (.int .i64 a0_4) := (qw BK101.out 4).trans rfl
         have hcz33_5 : wc.cell? ⟨gb101,5,none⟩ = some (.string a0_5) := (qw BK101.out 5).trans rfl
         have hcz33_6 : wc.cell? ⟨gb101,6,none⟩ = some (.string a0_6) := (qw BK101.out 6).trans rfl
         have hfz33_0 := qv BK101.out 0
         have hfz33_1 := qv BK101.out 1
         have hfz33_2 := qv BK101.out 2
         have hfz33_3 := qv BK101.out 3
         have hfz33_4 := qv BK101.out 4
         have hfz33_5 := qv BK101.out 5
         have hfz33_6 := qv BK101.out 6
         go_wp2
         go_ret
         exact ⟨by first | rfl | (simp [*,jk,jj] <;> rfl),by repeat (first | (with_reducible first | exact HB.out | apply qj | apply qz | apply qk | refine qx ?_ GE101.out) | exact HB.out)⟩
        ·rw [if_neg c32] at H
         have c32b0 : (a0_3 == 3) = false := beq_eq_false_iff_ne.mpr c32
         have c32b1 : (a0_3 != 3) = true := bne_iff_ne.mpr c32
         by_cases c34 : a0_3 = 5
         ·rw [if_pos c34] at H
          have c34b0 : (a0_3 == 5) = true := beq_iff_eq.mpr c34
          have c34b1 : (a0_3 != 5) = false := bne_eq_false_iff_eq.mpr c34
          clear c34
          obtain rfl := Option.some.inj H
          have hcz35_0 : wc.cell? ⟨gb101,0,none⟩ = some (.string a0_0) := (qw BK101.out 0).trans rfl
          have hcz35_1 : wc.cell? ⟨gb101,1,none⟩ = some (.int .i64 a0_1) := (qw BK101.out 1).trans rfl
          have hcz35_2 : wc.cell? ⟨gb101,2,none⟩ = some (.string a0_2) := (qw BK101.out 2).trans rfl
          have hcz35_3 : wc.cell? ⟨gb101,3,none⟩ = some (.int .i64 a0_3) := (qw BK101.out 3).trans rfl
          have hcz35_4 : wc.cell? ⟨gb101,4,none⟩ = some (.int .i64 a0_4) := (qw BK101.out 4).trans rfl
          have hcz35_5 : wc.cell? ⟨gb101,5,none⟩ = some (.string a0_5) := (qw BK101.out 5).trans rfl
          have hcz35_6 : wc.cell? ⟨gb101,6,none⟩ = some (.string a0_6) := (qw BK101.out 6).trans rfl
          have hfz35_0 := qv BK101.out 0
          have hfz35_1 := qv BK101.out 1
          have hfz35_2 := qv BK101.out 2
          have hfz35_3 := qv BK101.out 3
          have hfz35_4 := qv BK101.out 4
          have hfz35_5 := qv BK101.out 5
          have hfz35_6 := qv BK101.out 6
          go_wp2
          go_ret
          exact ⟨by first | rfl | (simp [*,jk,jj] <;> rfl),by repeat (first | (with_reducible first | exact HB.out | apply qj | apply qz | apply qk | refine qx ?_ GE101.out) | exact HB.out)⟩
         ·rw [if_neg c34] at H
          have c34b0 : (a0_3 == 5) = false := beq_eq_false_iff_ne.mpr c34
          have c34b1 : (a0_3 != 5) = true := bne_iff_ne.mpr c34
          obtain rfl := Option.some.inj H
          have hcz36_0 : wc.cell? ⟨gb101,0,none⟩ = some (.string a0_0) := (qw BK101.out 0).trans rfl
          have hcz36_1 : wc.cell? ⟨gb101,1,none⟩ = some (.int .i64 a0_1) := (qw BK101.out 1).trans rfl
          have hcz36_2 : wc.cell? ⟨gb101,2,none⟩ = some (.string a0_2) := (qw BK101.out 2).trans rfl
          have hcz36_3 : wc.cell? ⟨gb101,3,none⟩ = some (.int .i64 a0_3) := (qw BK101.out 3).trans rfl
          have hcz36_4 : wc.cell? ⟨gb101,4,none⟩ = some (.int .i64 a0_4) := (qw BK101.out 4).trans rfl
          have hcz36_5 : wc.cell? ⟨gb101,5,none⟩ = some (.string a0_5) := (qw BK101.out 5).trans rfl
          have hcz36_6 : wc.cell? ⟨gb101,6,none⟩ = some (.string a0_6) := (qw BK101.out 6).trans rfl
          have hfz36_0 := qv BK101.out 0
          have hfz36_1 := qv BK101.out 1
          have hfz36_2 := qv BK101.out 2
          have hfz36_3 := qv BK101.out 3
          have hfz36_4 := qv BK101.out 4
          have hfz36_5 := qv BK101.out 5
          have hfz36_6 := qv BK101.out 6
          go_wp2
          go_ret
          exact ⟨by first | rfl | (simp [*,jk,jj] <;> rfl),by repeat (first | (with_reducible first | exact HB.out | apply qj | apply qz | apply qk | refine qx ?_ GE101.out) | exact HB.out)⟩
      ·rw [if_neg c29] at H
       have c29b0 : (a0_1 == 3) = false := beq_eq_false_iff_ne.mpr c29
       have c29b1 : (a0_1 != 3) = true := bne_iff_ne.mpr c29
       by_cases c37 : a0_1 = 4
       ·rw [if_pos c37] at H
        have c37b0 : (a0_1 == 4) = true := beq_iff_eq.mpr c37
        have c37b1 : (a0_1 != 4) = false := bne_eq_false_iff_eq.mpr c37
        clear c37
        obtain rfl := Option.some.inj H
        have hcz38_0 : wc.cell? ⟨gb101,0,none⟩ = some (.string a0_0) := (qw BK101.out 0).trans rfl
        have hcz38_1 : wc.cell? ⟨gb101,1,none⟩ = some (.int .i64 a0_1) := (qw BK101.out 1).trans rfl
        have hcz38_2 : wc.cell? ⟨gb101,2,none⟩ = some (.string a0_2) := (qw BK101.out 2).trans rfl
        have hcz38_3 : wc.cell? ⟨gb101,3,none⟩ = some (.int .i64 a0_3) := (qw BK101.out 3).trans rfl
        have hcz38_4 : wc.cell? ⟨gb101,4,none⟩ = some (.int .i64 a0_4) := (qw BK101.out 4).trans rfl
        have hcz38_5 : wc.cell? ⟨gb101,5,none⟩ = some (.string a0_5) := (qw BK101.out 5).trans rfl
        have hcz38_6 : wc.cell? ⟨gb101,6,none⟩ = some (.string a0_6) := (qw BK101.out 6).trans rfl
        have hfz38_0 := qv BK101.out 0
        have hfz38_1 := qv BK101.out 1
        have hfz38_2 := qv BK101.out 2
        have hfz38_3 := qv BK101.out 3
        have hfz38_4 := qv BK101.out 4
        have hfz38_5 := qv BK101.out 5
        have hfz38_6 := qv BK101.out 6
        go_wp2
        go_ret
        exact ⟨by first | rfl | (simp [*,jk,jj] <;> rfl),by repeat (first | (with_reducible first | exact HB.out | apply qj | apply qz | apply qk | refine qx ?_ GE101.out) | exact HB.out)⟩
       ·rw [if_neg c37] at H
        have c37b0 : (a0_1 == 4) = false := beq_eq_false_iff_ne.mpr c37
        have c37b1 : (a0_1 != 4) = true := bne_iff_ne.mpr c37
        obtain rfl := Option.some.inj H
        have hcz39_0 : wc.cell? ⟨gb101,0,none⟩ = some (.string a0_0) := (qw BK101.out 0).trans rfl
        have hcz39_1 : wc.cell? ⟨gb101,1,none⟩ = some (.int .i64 a0_1) := (qw BK101.out 1).trans rfl
        have hcz39_2 : wc.cell? ⟨gb101,2,none⟩ = some (.string a0_2) := (qw BK101.out 2).trans rfl
        have hcz39_3 : wc.cell? ⟨gb101,3,none⟩ = some (.int .i64 a0_3) := (qw BK101.out 3).trans rfl
        have hcz39_4 : wc.cell? ⟨gb101,4,none⟩ = some (.int .i64 a0_4) := (qw BK101.out 4).trans rfl
        have hcz39_5 : wc.cell? ⟨gb101,5,none⟩ = some (.string a0_5) := (qw BK101.out 5).trans rfl
        have hcz39_6 : wc.cell? ⟨gb101,6,none⟩ = some (.string a0_6) := (qw BK101.out 6).trans rfl
        have hfz39_0 := qv BK101.out 0
        have hfz39_1 := qv BK101.out 1
        have hfz39_2 := qv BK101.out 2
        have hfz39_3 := qv BK101.out 3
        have hfz39_4 := qv BK101.out 4
        have hfz39_5 := qv BK101.out 5
        have hfz39_6 := qv BK101.out 6
        go_wp2
        go_ret
        exact ⟨by first | rfl | (simp [*,jk,jj] <;> rfl),by repeat (first | (with_reducible first | exact HB.out | apply qj | apply qz | apply qk | refine qx ?_ GE101.out) | exact HB.out)⟩
end Go.Proofs.YtnbbbjfjkhglhaaGreatDoor.Pr
namespace Go.Proofs.YtnbbbjfjkhglhaaGreatDoor.Pr
open Go.RowKit Go.Proofs.YtnbbbjfjkhglhaaGreatDoorW.PrintWords Go.Proofs.YtnbbbjfjkhglhaaGreatDoorW.PrintLast Go.Proofs.YtnbbbjfjkhglhaaGreatDoorW.PrintMore
attribute [local go_sem] max2_int min2_int max_two min_two max_three min_three max_four min_four
set_option linter.unusedVariables false
set_option linter.unusedSimpArgs false
def qqw.f  : Option (List ByteArray) := some (([(⟨#[]⟩ : ByteArray),(⟨#[61,61]⟩ : ByteArray),(⟨#[60]⟩ : ByteArray),(⟨#[60,61]⟩ : ByteArray),(⟨#[105,110]⟩ : ByteArray)] : List ByteArray))
set_option maxHeartbeats 8000000 in
set_option maxRecDepth 100000 in
theorem qqw.calls  (r : List ByteArray) (w : World) (h : qqw.f  = some r) :
  Calls Tryz.prog 21 #[] w fun e w' => ∃ v0_ : Value,e = .returned (v0_) ∧ Kd.R Kd.string 9 w' w.heap.size (fun _ => True) v0_ r ∧ Below w.heap.size w w' := by
 have HB := qq.mk (Below.refl w.heap.size w)
 have H : (some (([(⟨#[]⟩ : ByteArray),(⟨#[61,61]⟩ : ByteArray),(⟨#[60]⟩ : ByteArray),(⟨#[60,61]⟩ : ByteArray),(⟨#[105,110]⟩ : ByteArray)] : List ByteArray))) = some r := h
 clear h
 obtain ⟨y101,hy101⟩ : ∃ y_ : List ByteArray,y_ = (([(⟨#[]⟩ : ByteArray),(⟨#[61,61]⟩ : ByteArray),(⟨#[60]⟩ : ByteArray),(⟨#[60,61]⟩ : ByteArray),(⟨#[105,110]⟩ : ByteArray)] : List ByteArray)) := ⟨_,rfl⟩
 replace H : (some y101) = some r := by first | (rw [hy101];with_reducible exact H) | (have H2_ := (Option.bind_some _ _).symm.trans H;rw [hy101];with_reducible exact H2_) | (have H2_ := (Option.bind_some _ _).symm.trans H;with_reducible exact H2_) | with_reducible exact H | (rw [hy101];exact H) | exact H
 have Ny101 := qq.mk hy101
 clear hy101
 obtain rfl := Option.some.inj H
 go_enter Tryz.func21,Tryz.ntmps21
 go_wp2_with (first | ((with_reducible refine gate_dst (N := 1) rfl ?_);refine Kd.R_lit Kd.string _ 9 ?hg (N := 1) ?hd (xs := ([(⟨#[]⟩ : ByteArray),(⟨#[61,61]⟩ : ByteArray),(⟨#[60]⟩ : ByteArray),(⟨#[60,61]⟩ : ByteArray),(⟨#[105,110]⟩ : ByteArray)] : List ByteArray)) (inner := [.string (⟨#[]⟩ : ByteArray),.string (⟨#[61,61]⟩ : ByteArray),.string (⟨#[60]⟩ : ByteArray),.string (⟨#[60,61]⟩ : ByteArray),.string (⟨#[105,110]⟩ : ByteArray)]) (ok := fun _ => True) (okp := fun _ => True) ?hr ?hp (fun _ hk => hk) trivial (Below.refl _ _) (Nat.le_refl _) (by simp) ?_;(case hd => rfl);(case hg => rfl);(case hr => first | (go_simp;done) | (go_simp;rfl));(case hp => exact (Reps.one (show Kd.M Kd.string _ _ _ (⟨#[]⟩ : ByteArray) [.string (⟨#[]⟩ : ByteArray)] from rfl) (Reps.one (show Kd.M Kd.string _ _ _ (⟨#[61,61]⟩ : ByteArray) [.string (⟨#[61,61]⟩ : ByteArray)] from rfl) (Reps.one (show Kd.M Kd.string _ _ _ (⟨#[60]⟩ : ByteArray) [.string (⟨#[60]⟩ : ByteArray)] from rfl) (Reps.one (show Kd.M Kd.string _ _ _ (⟨#[60,61]⟩ : ByteArray) [.string (⟨#[60,61]⟩ : ByteArray)] from rfl) (Reps.one (show Kd.M Kd.string _ _ _ (⟨#[105,110]⟩ : ByteArray) [.string (⟨#[105,110]⟩ : ByteArray)] from rfl) (Reps.none _ _)))))));intro v102 w1 ho2 hb hg_ hnew_;clear hg_ hnew_;(first | rw [← Ny101.out] at ho2 | (simp only [Int.reduceToNat] at ho2;rw [← Ny101.out] at ho2));have n0_ := qq.mk (Kd.R_lower ho2 (zw (by repeat (first | (with_reducible first | exact HB.out | apply qj | apply qz | apply qk) | exact HB.out))));have n1_ := qq.mk (zv (by repeat (first | (with_reducible first | exact HB.out | apply qj | apply qz | apply qk) | exact HB.out)) hb);clear HB;have HO103 := n0_;have HB := n1_;clear n0_ n1_;clear hb ho2))
 go_ret
 exact ⟨_,by first | rfl | (simp [*,jk,jj] <;> rfl),by (with_reducible repeat (first | apply Kd.jq | apply Kd.zx | apply Kd.jz));exact HO103.out,by repeat (first | (with_reducible first | exact HB.out | apply qj | apply qz | apply qk) | exact HB.out)⟩
end Go.Proofs.YtnbbbjfjkhglhaaGreatDoor.Pr
namespace Go.Proofs.YtnbbbjfjkhglhaaGreatDoor.Pr
open Go.RowKit Go.Proofs.YtnbbbjfjkhglhaaGreatDoorW.PrintWords Go.Proofs.YtnbbbjfjkhglhaaGreatDoorW.PrintLast Go.Proofs.YtnbbbjfjkhglhaaGreatDoorW.PrintMore
attribute [local go_sem] max2_int min2_int max_two min_two max_three min_three max_four min_four
set_option linter.unusedVariables false
set_option linter.unusedSimpArgs false
def qqk.l0 : Nat → Int → ByteArray → Option (ByteArray)
 | 0,_,_ => none
 | k + 1,x0,x3 => if x0 = 0 then (some x3) else (if (Int.tmod x0 10) < 0 then ((some (([(wrap64 (48 + (wrap64 (-(Int.tmod x0 10))))) % 256] : List Int) : List Int)).bind fun y101 => (if (strOfNums y101).size + x3.size ≤ 9223372036854775807 then (qqk.l0 k (wrap64 (Int.tdiv x0 10)) ((strOfNums y101) ++ x3)) else (none))) else ((some (([(wrap64 (48 + (Int.tmod x0 10))) % 256] : List Int) : List Int)).bind fun y104 => (if (strOfNums y104).size + x3.size ≤ 9223372036854775807 then (qqk.l0 k (wrap64 (Int.tdiv x0 10)) ((strOfNums y104) ++ x3)) else (none))))
def qqk.f (k : Nat) (a0 : Int) : Option (ByteArray) := if a0 = 0 then (some (⟨#[48]⟩ : ByteArray)) else (qqk.l0 k a0 (⟨#[]⟩ : ByteArray))
set_option maxHeartbeats 8000000 in
set_option maxRecDepth 100000 in
theorem qqk.calls (k : Nat) (a0 : Int) (r : ByteArray) (w : World) (h : qqk.f k a0 = some r) :
  Calls Tryz.prog 49 #[.int .i64 a0] w fun e w' => e = .returned (.string r) ∧ Below w.heap.size w w' := by
 have HB := qq.mk (Below.refl w.heap.size w)
 have H : (if a0 = 0 then (some (⟨#[48]⟩ : ByteArray)) else (qqk.l0 k a0 (⟨#[]⟩ : ByteArray))) = some r := h
 clear h
 by_cases c2 : a0 = 0
 ·rw [if_pos c2] at H
  have c2b0 : (a0 == 0) = true := beq_iff_eq.mpr c2
  have c2b1 : (a0 != 0) = false := bne_eq_false_iff_eq.mpr c2
  clear c2
  obtain rfl := Option.some.inj H
  go_enter Tryz.func49,Tryz.ntmps49
  go_wp2
  go_ret
  exact ⟨by first | rfl | (simp [*,jk,jj] <;> rfl),by repeat (first | (with_reducible first | exact HB.out | apply qj | apply qz | apply qk) | exact HB.out)⟩
 ·rw [if_neg c2] at H
  have c2b0 : (a0 == 0) = false := beq_eq_false_iff_ne.mpr c2
  have c2b1 : (a0 != 0) = true := bne_iff_ne.mpr c2
  have H' := qq.mk H
  clear H
  go_enter Tryz.func49,Tryz.ntmps49
  go_wp2
  go_loopg [0,3] k (fun kq v0 v3 w' => ∃ (x0_1 : Int) (x3_1 : ByteArray),v0 = .int .i64 x0_1 ∧ v3 = .string x3_1 ∧ qq (qqk.l0 kq x0_1 x3_1 = some r) ∧ qq (kq ≤ k) ∧ qq (Below w.heap.size w w'))
  case atStart => exact ⟨(a0),((⟨#[]⟩ : ByteArray)),(by first | rfl | (simp;done) | (simp [*];done)),(by first | rfl | (simp;done) | (simp [*];done)),H',⟨Nat.le_refl _⟩,⟨by repeat (first | (with_reducible first | exact HB.out | apply qj | apply qz | apply qk) | exact HB.out)⟩⟩
  case round =>
   clear H'
   try clear c2
   try clear c2b0
   try clear c2b1
   try clear p2
   obtain ⟨x0_1,x3_1,rfl,rfl,HA,HK1,HB⟩ := hrel
   cases gk with
   | zero => exact absurd HA.out (by simp [qqk.l0])
   | succ k1 =>
    have H := HA.out
    clear HA
    simp only [qqk.l0] at H
    by_cases c3 : x0_1 = 0
    ·rw [if_pos c3] at H
     have c3b0 : (x0_1 == 0) = true := beq_iff_eq.mpr c3
     have c3b1 : (x0_1 != 0) = false := bne_eq_false_iff_eq.mpr c3
     clear c3
     obtain rfl := Option.some.inj H
     go_wp2
     go_ret
     exact ⟨by first | rfl | (simp [*,jk,jj] <;> rfl),by repeat (first | (with_reducible first | exact HB.out | apply qj | apply qz | apply qk) | exact HB.out)⟩
    ·rw [if_neg c3] at H
     have c3b0 : (x0_1 == 0) = false := beq_eq_false_iff_ne.mpr c3
     have c3b1 : (x0_1 != 0) = true := bne_iff_ne.mpr c3
     by_cases c4 : (Int.tmod x0_1 10) < 0
     ·rw [if_pos c4] at H
      have c4b0 : decide ((Int.tmod x0_1 10) < 0) = true := decide_eq_true c4
      clear c4
      obtain ⟨y101,hy101⟩ : ∃ y_ : List Int,y_ = (([(wrap64 (48 + (wrap64 (-(Int.tmod x0_1 10))))) % 256] : List Int)) := ⟨_,rfl⟩
      replace H : (if (strOfNums y101).size + x3_1.size ≤ 9223372036854775807 then (qqk.l0 k1 (wrap64 (Int.tdiv x0_1 10)) ((strOfNums y101) ++ x3_1)) else (none)) = some r := by first | (rw [hy101];with_reducible exact H) | (have H2_ := (Option.bind_some _ _).symm.trans H;rw [hy101];with_reducible exact H2_) | (have H2_ := (Option.bind_some _ _).symm.trans H;with_reducible exact H2_) | with_reducible exact H | (rw [hy101];exact H) | exact H
      have Ny101 := qq.mk hy101
      clear hy101
      by_cases c5 : (strOfNums y101).size + x3_1.size ≤ 9223372036854775807
      ·rw [if_pos c5] at H
       have c5b0 := eq_true c5
       have c5b1 : decide ((strOfNums y101).size + x3_1.size ≤ 9223372036854775807) = true := decide_eq_true c5
       try have c5b2 : (9223372036854775807 < (strOfNums y101).size + x3_1.size) = False := eq_false (Nat.not_lt.2 c5)
       have H' := qq.mk H
       clear H
       go_wp2_with (first | ((with_reducible refine gate_dst (N := 18) rfl ?_);refine Kd.R_lit (Kd.int .u8) _ 5 ?hg (N := 18) ?hd (xs := ([(wrap64 (48 + (wrap64 (-(Int.tmod x0_1 10))))) % 256] : List Int)) (inner := [.int .u8 ((wrap64 (48 + (wrap64 (-(Int.tmod x0_1 10))))) % 256)]) (ok := fun _ => True) (okp := fun _ => True) ?hr ?hp (fun _ hk => hk) trivial (Below.refl _ _) (Nat.le_refl _) (by simp) ?_;(case hd => rfl);(case hg => rfl);(case hr => first | (go_simp;done) | (go_simp;rfl));(case hp => exact (Reps.one (show Kd.M (Kd.int .u8) _ _ _ ((wrap64 (48 + (wrap64 (-(Int.tmod x0_1 10))))) % 256) [.int .u8 ((wrap64 (48 + (wrap64 (-(Int.tmod x0_1 10))))) % 256)] from rfl) (Reps.none _ _)));intro v102 w6 ho7 hb hg_ hnew_;clear hg_ hnew_;(first | rw [← Ny101.out] at ho7 | (simp only [Int.reduceToNat] at ho7;rw [← Ny101.out] at ho7));have n0_ := qq.mk (Kd.R_lower ho7 (zw (by repeat (first | (with_reducible first | exact HB.out | apply qj | apply qz | apply qk) | exact HB.out))));have n1_ := qq.mk (zv (by repeat (first | (with_reducible first | exact HB.out | apply qj | apply qz | apply qk) | exact HB.out)) hb);clear HB;have HO103 := n0_;have HB := n1_;clear n0_ n1_;clear hb ho7;have hcv8 := own_string (P := Tryz.prog) Tryz.underlying34 Tryz.underlying5 Tryz.underlying9 (Kd.own_of_R HO103.out)))
       go_roundg k1
       case measure => have := HK1.out;omega
       case rel => exact ⟨(wrap64 (Int.tdiv x0_1 10)),((strOfNums y101) ++ x3_1),(by first | rfl | (simp;done) | (simp [*];done)),(by first | rfl | (simp;done) | (simp [*];done)),H',⟨by have := HK1.out;omega⟩,⟨by repeat (first | (with_reducible first | exact HB.out | apply qj | apply qz | apply qk) | exact HB.out)⟩⟩
      ·rw [if_neg c5] at H
       exact absurd H (by simp)
     ·rw [if_neg c4] at H
      have c4b0 : decide ((Int.tmod x0_1 10) < 0) = false := decide_eq_false c4
      clear c4
      obtain ⟨y104,hy104⟩ : ∃ y_ : List Int,y_ = (([(wrap64 (48 + (Int.tmod x0_1 10))) % 256] : List Int)) := ⟨_,rfl⟩
      replace H : (if (strOfNums y104).size + x3_1.size ≤ 9223372036854775807 then (qqk.l0 k1 (wrap64 (Int.tdiv x0_1 10)) ((strOfNums y104) ++ x3_1)) else (none)) = some r := by first | (rw [hy104];with_reducible exact H) | (have H2_ := (Option.bind_some _ _).symm.trans H;rw [hy104];with_reducible exact H2_) | (have H2_ := (Option.bind_some _ _).symm.trans H;with_reducible exact H2_) | with_reducible exact H | (rw [hy104];exact H) | exact H
      have Ny104 := qq.mk hy104
      clear hy104
      by_cases c9 : (strOfNums y104).size + x3_1.size ≤ 9223372036854775807
      ·rw [if_pos c9] at H
       have c9b0 := eq_true c9
       have c9b1 : decide ((strOfNums y104).size + x3_1.size ≤ 9223372036854775807) = true := decide_eq_true c9
       try have c9b2 : (9223372036854775807 < (strOfNums y104).size + x3_1.size) = False := eq_false (Nat.not_lt.2 c9)
       have H' := qq.mk H
       clear H
       go_wp2_with (first | ((with_reducible refine gate_dst (N := 18) rfl ?_);refine Kd.R_lit (Kd.int .u8) _ 5 ?hg (N := 18) ?hd (xs := ([(wrap64 (48 + (Int.tmod x0_1 10))) % 256] : List Int)) (inner := [.int .u8 ((wrap64 (48 + (Int.tmod x0_1 10))) % 256)]) (ok := fun _ => True) (okp := fun _ => True) ?hr ?hp (fun _ hk => hk) trivial (Below.refl _ _) (Nat.le_refl _) (by simp) ?_;(case hd => rfl);(case hg => rfl);(case hr => first | (go_simp;done) | (go_simp;rfl));(case hp => exact (Reps.one (show Kd.M (Kd.int .u8) _ _ _ ((wrap64 (48 + (Int.tmod x0_1 10))) % 256) [.int .u8 ((wrap64 (48 + (Int.tmod x0_1 10))) % 256)] from rfl) (Reps.none _ _)));intro v105 w10 ho11 hb hg_ hnew_;clear hg_ hnew_;(first | rw [← Ny104.out] at ho11 | (simp only [Int.reduceToNat] at ho11;rw [← Ny104.out] at ho11));have n0_ := qq.mk (Kd.R_lower ho11 (zw (by repeat (first | (with_reducible first | exact HB.out | apply qj | apply qz | apply qk) | exact HB.out))));have n1_ := qq.mk (zv (by repeat (first | (with_reducible first | exact HB.out | apply qj | apply qz | apply qk) | exact HB.out)) hb);clear HB;have HO106 := n0_;have HB := n1_;clear n0_ n1_;clear hb ho11;have hcv12 := own_string (P := Tryz.prog) Tryz.underlying34 Tryz.underlying5 Tryz.underlying9 (Kd.own_of_R HO106.out)))
       go_roundg k1
       case measure => have := HK1.out;omega
       case rel => exact ⟨(wrap64 (Int.tdiv x0_1 10)),((strOfNums y104) ++ x3_1),(by first | rfl | (simp;done) | (simp [*];done)),(by first | rfl | (simp;done) | (simp [*];done)),H',⟨by have := HK1.out;omega⟩,⟨by repeat (first | (with_reducible first | exact HB.out | apply qj | apply qz | apply qk) | exact HB.out)⟩⟩
      ·rw [if_neg c9] at H
       exact absurd H (by simp)
end Go.Proofs.YtnbbbjfjkhglhaaGreatDoor.Pr
namespace Go.Proofs.YtnbbbjfjkhglhaaGreatDoor.Pr
open Go.RowKit Go.Proofs.YtnbbbjfjkhglhaaGreatDoorW.PrintWords Go.Proofs.YtnbbbjfjkhglhaaGreatDoorW.PrintLast Go.Proofs.YtnbbbjfjkhglhaaGreatDoorW.PrintMore
attribute [local go_sem] max2_int min2_int max_two min_two max_three min_three max_four min_four
set_option linter.unusedVariables false
set_option linter.unusedSimpArgs false
def xx.f (k : Nat) (a0 : Int) : Option (ByteArray) := if a0 < 0 then ((qqk.f k a0).bind fun t101 => (if 1 + t101.size ≤ 9223372036854775807 then (some ((⟨#[45]⟩ : ByteArray) ++ t101)) else (none))) else ((qqk.f k a0).bind fun t102 => (some t102))
set_option maxHeartbeats 8000000 in
set_option maxRecDepth 100000 in
theorem xx.calls (k : Nat) (a0 : Int) (r : ByteArray) (w : World) (h : xx.f k a0 = some r) :
  Calls Tryz.prog 47 #[.int .i64 a0] w fun e w' => e = .returned (.string r) ∧ Below w.heap.size w w' := by
 have HB := qq.mk (Below.refl w.heap.size w)
 have H : (if a0 < 0 then ((qqk.f k a0).bind fun t101 => (if 1 + t101.size ≤ 9223372036854775807 then (some ((⟨#[45]⟩ : ByteArray) ++ t101)) else (none))) else ((qqk.f k a0).bind fun t102 => (some t102))) = some r := h
 clear h
 by_cases c2 : a0 < 0
 ·rw [if_pos c2] at H
  have c2b0 : decide (a0 < 0) = true := decide_eq_true c2
  clear c2
  replace H := Option.bind_eq_some_iff.mp H
  obtain ⟨t101,A30,H⟩ := H
  replace H : (if 1 + t101.size ≤ 9223372036854775807 then (some ((⟨#[45]⟩ : ByteArray) ++ t101)) else (none)) = some r := H
  have A3 := qq.mk A30
  clear A30
  by_cases c4 : 1 + t101.size ≤ 9223372036854775807
  ·rw [if_pos c4] at H
   have c4b0 := eq_true c4
   have c4b1 : decide (1 + t101.size ≤ 9223372036854775807) = true := decide_eq_true c4
   try have c4b2 : (9223372036854775807 < 1 + t101.size) = False := eq_false (Nat.not_lt.2 c4)
   obtain rfl := Option.some.inj H
   go_enter Tryz.func47,Tryz.ntmps47
   go_wp2_with (first | ((with_reducible refine jv (f := 49) rfl ?_);refine goesL_ (some 6) rfl rfl Tryz.func49 (by kernel_rfl) rfl #[.int .i64 a0] rfl (by (try simp only [List.map_toArray,List.map_cons,List.map_nil]);first | done | rfl | (simp only [List.length_drop,List.length_take];rfl)) ?_;(with_reducible refine (qqk.calls k a0 t101 _ A3.out).mono ?_);rintro e w5 ⟨rfl,hb⟩;refine ⟨_,rfl,?_⟩;have n0_ := qq.mk (zv (by repeat (first | (with_reducible first | exact HB.out | apply qj | apply qz | apply qk) | exact HB.out)) hb);clear HB;have HB := n0_;clear n0_;(try clear hb);(try clear hb2);(try clear hk);(try clear hi)))
   go_ret
   exact ⟨by first | rfl | (simp [*,jk,jj] <;> rfl),by repeat (first | (with_reducible first | exact HB.out | apply qj | apply qz | apply qk) | exact HB.out)⟩
  ·rw [if_neg c4] at H
   exact absurd H (by simp)
 ·rw [if_neg c2] at H
  have c2b0 : decide (a0 < 0) = false := decide_eq_false c2
  clear c2
  replace H := Option.bind_eq_some_iff.mp H
  obtain ⟨t102,A60,H⟩ := H
  replace H : (some t102) = some r := H
  have A6 := qq.mk A60
  clear A60
  obtain rfl := Option.some.inj H
  go_enter Tryz.func47,Tryz.ntmps47
  go_wp2_with (first | ((with_reducible refine jv (f := 49) rfl ?_);refine goesL_ (some 9) rfl rfl Tryz.func49 (by kernel_rfl) rfl #[.int .i64 a0] rfl (by (try simp only [List.map_toArray,List.map_cons,List.map_nil]);first | done | rfl | (simp only [List.length_drop,List.length_take];rfl)) ?_;(with_reducible refine (qqk.calls k a0 t102 _ A6.out).mono ?_);rintro e w7 ⟨rfl,hb⟩;refine ⟨_,rfl,?_⟩;have n0_ := qq.mk (zv (by repeat (first | (with_reducible first | exact HB.out | apply qj | apply qz | apply qk) | exact HB.out)) hb);clear HB;have HB := n0_;clear n0_;(try clear hb);(try clear hb2);(try clear hk);(try clear hi)))
  go_ret
  exact ⟨by first | rfl | (simp [*,jk,jj] <;> rfl),by repeat (first | (with_reducible first | exact HB.out | apply qj | apply qz | apply qk) | exact HB.out)⟩
end Go.Proofs.YtnbbbjfjkhglhaaGreatDoor.Pr
namespace Go.Proofs.YtnbbbjfjkhglhaaGreatDoor.Pr
open Go.RowKit Go.Proofs.YtnbbbjfjkhglhaaGreatDoorW.PrintWords Go.Proofs.YtnbbbjfjkhglhaaGreatDoorW.PrintLast Go.Proofs.YtnbbbjfjkhglhaaGreatDoorW.PrintMore
attribute [local go_sem] max2_int min2_int max_two min_two max_three min_three max_four min_four
set_option linter.unusedVariables false
set_option linter.unusedSimpArgs false
def qqj.l0 : Nat → ByteArray → List Int → Int → Option (ByteArray)
 | 0,_,_,_ => none
 | k + 1,x0,x3,x4 => if x4 < (x0.size : Int) then (if 0 ≤ x4 then (if (bt x0 x4) = 34 then (if x3.length < 140737488355328 then ((some (x3 ++ [92] : List Int)).bind fun y104 => (if y104.length < 140737488355328 then (qqj.l0 k x0 (y104 ++ [bt x0 x4]) (wrap64 (x4 + 1))) else (none))) else (none)) else (if (bt x0 x4) = 92 then (if x3.length < 140737488355328 then ((some (x3 ++ [92] : List Int)).bind fun y110 => (if y110.length < 140737488355328 then (qqj.l0 k x0 (y110 ++ [bt x0 x4]) (wrap64 (x4 + 1))) else (none))) else (none)) else (if x3.length < 140737488355328 then (qqj.l0 k x0 (x3 ++ [bt x0 x4]) (wrap64 (x4 + 1))) else (none)))) else (none)) else (if x3.length < 140737488355328 then (some (strOfNums (x3 ++ [34]))) else (none))
def qqj.f (k : Nat) (a0 : ByteArray) : Option (ByteArray) := qqj.l0 k a0 (([34] : List Int)) 0
set_option maxHeartbeats 8000000 in
set_option maxRecDepth 100000 in
theorem qqj.calls (k : Nat) (a0 : ByteArray) (r : ByteArray) (w : World) (h : qqj.f k a0 = some r) :
  Calls Tryz.prog 48 #[.string a0] w fun e w' => e = .returned (.string r) ∧ Below w.heap.size w w' := by
 have HB := qq.mk (Below.refl w.heap.size w)
 have H : (qqj.l0 k a0 (([34] : List Int)) 0) = some r := h
 clear h
 obtain ⟨y101,hy101⟩ : ∃ y_ : List Int,y_ = (([34] : List Int)) := ⟨_,rfl⟩
 replace H : (qqj.l0 k a0 y101 0) = some r := by first | (rw [hy101];with_reducible exact H) | (have H2_ := (Option.bind_some _ _).symm.trans H;rw [hy101];with_reducible exact H2_) | (have H2_ := (Option.bind_some _ _).symm.trans H;with_reducible exact H2_) | with_reducible exact H | (rw [hy101];exact H) | exact H
 have Ny101 := qq.mk hy101
 clear hy101
 have H' := qq.mk H
 clear H
 go_enter Tryz.func48,Tryz.ntmps48
 go_wp2_with (first | ((with_reducible refine gate_dst (N := 5) rfl ?_);refine Kd.R_lit (Kd.int .u8) _ 5 ?hg (N := 5) ?hd (xs := ([34] : List Int)) (inner := [.int .u8 34]) (ok := fun _ => True) (okp := fun _ => True) ?hr ?hp (fun _ hk => hk) trivial (Below.refl _ _) (Nat.le_refl _) (by simp) ?_;(case hd => rfl);(case hg => rfl);(case hr => first | (go_simp;done) | (go_simp;rfl));(case hp => exact (Reps.one (show Kd.M (Kd.int .u8) _ _ _ 34 [.int .u8 34] from rfl) (Reps.none _ _)));intro v102 w2 ho3 hb hg_ hnew_;clear hg_ hnew_;(first | rw [← Ny101.out] at ho3 | (simp only [Int.reduceToNat] at ho3;rw [← Ny101.out] at ho3));have n0_ := qq.mk (Kd.R_lower ho3 (zw (by repeat (first | (with_reducible first | exact HB.out | apply qj | apply qz | apply qk) | exact HB.out))));have n1_ := qq.mk (zv (by repeat (first | (with_reducible first | exact HB.out | apply qj | apply qz | apply qk) | exact HB.out)) hb);clear HB;have HO103 := n0_;have HB := n1_;clear n0_ n1_;clear hb ho3))
 go_loopg [3,4] k (fun kq v3 v4 w' => ∃ (x3_1 : List Int) (x4_1 : Int),v4 = .int .i64 x4_1 ∧ qq (qqj.l0 kq a0 x3_1 x4_1 = some r) ∧ qq (kq ≤ k) ∧ qq (Kd.R (Kd.int .u8) 5 w' w.heap.size (fun _ => True) v3 x3_1) ∧ qq (Below w.heap.size w w'))
 case atStart => exact ⟨(y101),(0),(by first | rfl | (simp;done) | (simp [*];done)),H',⟨Nat.le_refl _⟩,⟨by (with_reducible repeat (first | apply Kd.jq | apply Kd.zx | apply Kd.jz));exact HO103.out⟩,⟨by repeat (first | (with_reducible first | exact HB.out | apply qj | apply qz | apply qk) | exact HB.out)⟩⟩
 case round =>
  clear H'
  try clear p2
  obtain ⟨x3_1,x4_1,rfl,HA,HK1,HO_3,HB⟩ := hrel
  cases gk with
  | zero => exact absurd HA.out (by simp [qqj.l0])
  | succ k1 =>
   have H := HA.out
   clear HA
   simp only [qqj.l0] at H
   by_cases c4 : x4_1 < (a0.size : Int)
   ·rw [if_pos c4] at H
    have c4b0 : decide (x4_1 < (a0.size : Int)) = true := decide_eq_true c4
    clear c4
    by_cases c5 : 0 ≤ x4_1
    ·rw [if_pos c5] at H
     have c5b0 : decide (0 ≤ x4_1) = true := decide_eq_true c5
     clear c5
     by_cases c7 : (bt a0 x4_1) = 34
     ·rw [if_pos c7] at H
      have c7b0 : ((bt a0 x4_1) == 34) = true := beq_iff_eq.mpr c7
      have c7b1 : ((bt a0 x4_1) != 34) = false := bne_eq_false_iff_eq.mpr c7
      clear c7
      by_cases c8 : x3_1.length < 140737488355328
      ·rw [if_pos c8] at H
       have LMc8 := qq.mk c8
       clear c8
       obtain ⟨y104,hy104⟩ : ∃ y_ : List Int,y_ = (x3_1 ++ [92]) := ⟨_,rfl⟩
       replace H : (if y104.length < 140737488355328 then (qqj.l0 k1 a0 (y104 ++ [bt a0 x4_1]) (wrap64 (x4_1 + 1))) else (none)) = some r := by first | (rw [hy104];with_reducible exact H) | (have H2_ := (Option.bind_some _ _).symm.trans H;rw [hy104];with_reducible exact H2_) | (have H2_ := (Option.bind_some _ _).symm.trans H;with_reducible exact H2_) | with_reducible exact H | (rw [hy104];exact H) | exact H
       have Ny104 := qq.mk hy104
       clear hy104
       by_cases c10 : y104.length < 140737488355328
       ·rw [if_pos c10] at H
        have LMc10 := qq.mk c10
        clear c10
        obtain ⟨y107,hy107⟩ : ∃ y_ : List Int,y_ = (y104 ++ [bt a0 x4_1]) := ⟨_,rfl⟩
        replace H : (qqj.l0 k1 a0 y107 (wrap64 (x4_1 + 1))) = some r := by first | (rw [hy107];with_reducible exact H) | (have H2_ := (Option.bind_some _ _).symm.trans H;rw [hy107];with_reducible exact H2_) | (have H2_ := (Option.bind_some _ _).symm.trans H;with_reducible exact H2_) | with_reducible exact H | (rw [hy107];exact H) | exact H
        have Ny107 := qq.mk hy107
        clear hy107
        have H' := qq.mk H
        clear H
        have p6 : 0 ≤ (x4_1 : Int) := of_decide_eq_true (by assumption)
        have q6 : x4_1 < (a0.size : Int) := of_decide_eq_true (by assumption)
        have hx6 := bt_at a0 x4_1
        replace p6 := eq_true p6
        replace q6 := eq_true q6
        go_wp2_with (first | ((with_reducible refine gate_builtin (b := .append) (xs := #[.tmp 22,.tmp 23]) rfl ?_);at_builtin;refine Kd.R_append (Kd.int .u8) (w0 := w) w.heap.size rfl (.tmp 22) (.tmp 23) 34 5 (.int .u8 0) 1 rfl Tryz.underlying34 info5 rfl (by decide) (by omega) u3 x3_1 92 [.int .u8 92] (fun _ => True) (fun _ => False) rfl rfl ?aP (fun _ hk => hk.elim) ?aF ?aO ?aB ?aS ?aL ?_;(case aP => exact rfl);(case aB => exact (by repeat (first | (with_reducible first | exact HB.out | apply qj | apply qz | apply qk) | exact HB.out)));(case aF => exact (fun _ _ => trivial));(case aO => exact (by (with_reducible repeat (first | apply Kd.jq | apply Kd.zx | apply Kd.jz));exact HO_3.out));(case aS => exact (zw (by repeat (first | (with_reducible first | exact HB.out | apply qj | apply qz | apply qk) | exact HB.out))));(case aL => have := LMc8.out;omega);intro v105 w11 ho hb hg hat;rw [← Ny104.out] at ho;have n0_ := qq.mk (hb);have n1_ := qq.mk (ho);clear HB;clear HO_3;have HB := n0_;have HO106 := n1_;clear n0_ n1_;clear ho hb hg hat;have p9 : 0 ≤ (x4_1 : Int) := of_decide_eq_true (by assumption);have q9 : x4_1 < (a0.size : Int) := of_decide_eq_true (by assumption);have hx9 := bt_at a0 x4_1;replace p9 := eq_true p9;replace q9 := eq_true q9) | ((with_reducible refine gate_builtin (b := .append) (xs := #[.tmp 25,.tmp 29]) rfl ?_);at_builtin;refine Kd.R_append (Kd.int .u8) (w0 := w) w.heap.size rfl (.tmp 25) (.tmp 29) 34 5 (.int .u8 0) 1 rfl Tryz.underlying34 info5 rfl (by decide) (by omega) v105 y104 (bt a0 x4_1) [.int .u8 (bt a0 x4_1)] (fun _ => True) (fun _ => False) rfl rfl ?aP (fun _ hk => hk.elim) ?aF ?aO ?aB ?aS ?aL ?_;(case aP => exact rfl);(case aB => exact (by repeat (first | (with_reducible first | exact HB.out | apply qj | apply qz | apply qk) | exact HB.out)));(case aF => exact (fun _ _ => trivial));(case aO => exact (by (with_reducible repeat (first | apply Kd.jq | apply Kd.zx | apply Kd.jz));exact HO106.out));(case aS => exact (zw (by repeat (first | (with_reducible first | exact HB.out | apply qj | apply qz | apply qk) | exact HB.out))));(case aL => have := LMc10.out;omega);intro v108 w12 ho hb hg hat;rw [← Ny107.out] at ho;have n0_ := qq.mk (hb);have n1_ := qq.mk (ho);clear HB;clear HO106;have HB := n0_;have HO109 := n1_;clear n0_ n1_;clear ho hb hg hat))
        go_roundg k1
        case measure => have := HK1.out;omega
        case rel => exact ⟨(y107),(wrap64 (x4_1 + 1)),(by first | rfl | (simp;done) | (simp [*];done)),H',⟨by have := HK1.out;omega⟩,⟨by (with_reducible repeat (first | apply Kd.jq | apply Kd.zx | apply Kd.jz));exact HO109.out⟩,⟨by repeat (first | (with_reducible first | exact HB.out | apply qj | apply qz | apply qk) | exact HB.out)⟩⟩
       ·rw [if_neg c10] at H
        exact absurd H (by simp)
      ·rw [if_neg c8] at H
       exact absurd H (by simp)
     ·rw [if_neg c7] at H
      have c7b0 : ((bt a0 x4_1) == 34) = false := beq_eq_false_iff_ne.mpr c7
      have c7b1 : ((bt a0 x4_1) != 34) = true := bne_iff_ne.mpr c7
      by_cases c14 : (bt a0 x4_1) = 92
      ·rw [if_pos c14] at H
       have c14b0 : ((bt a0 x4_1) == 92) = true := beq_iff_eq.mpr c14
       have c14b1 : ((bt a0 x4_1) != 92) = false := bne_eq_false_iff_eq.mpr c14
       clear c14
       by_cases c15 : x3_1.length < 140737488355328
       ·rw [if_pos c15] at H
        have LMc15 := qq.mk c15
        clear c15
        obtain ⟨y110,hy110⟩ : ∃ y_ : List Int,y_ = (x3_1 ++ [92]) := ⟨_,rfl⟩
        replace H : (if y110.length < 140737488355328 then (qqj.l0 k1 a0 (y110 ++ [bt a0 x4_1]) (wrap64 (x4_1 + 1))) else (none)) = some r := by first | (rw [hy110];with_reducible exact H) | (have H2_ := (Option.bind_some _ _).symm.trans H;rw [hy110];with_reducible exact H2_) | (have H2_ := (Option.bind_some _ _).symm.trans H;with_reducible exact H2_) | with_reducible exact H | (rw [hy110];exact H) | exact H
        have Ny110 := qq.mk hy110
        clear hy110
        by_cases c17 : y110.length < 140737488355328
        ·rw [if_pos c17] at H
         have LMc17 := qq.mk c17
         clear c17
         obtain ⟨y113,hy113⟩ : ∃ y_ : List Int,y_ = (y110 ++ [bt a0 x4_1]) := ⟨_,rfl⟩
         replace H : (qqj.l0 k1 a0 y113 (wrap64 (x4_1 + 1))) = some r := by first | (rw [hy113];with_reducible exact H) | (have H2_ := (Option.bind_some _ _).symm.trans H;rw [hy113];with_reducible exact H2_) | (have H2_ := (Option.bind_some _ _).symm.trans H;with_reducible exact H2_) | with_reducible exact H | (rw [hy113];exact H) | exact H
         have Ny113 := qq.mk hy113
         clear hy113
         have H' := qq.mk H
         clear H
         have p6 : 0 ≤ (x4_1 : Int) := of_decide_eq_true (by assumption)
         have q6 : x4_1 < (a0.size : Int) := of_decide_eq_true (by assumption)
         have hx6 := bt_at a0 x4_1
         replace p6 := eq_true p6
         replace q6 := eq_true q6
         have p13 : 0 ≤ (x4_1 : Int) := of_decide_eq_true (by assumption)
         have q13 : x4_1 < (a0.size : Int) := of_decide_eq_true (by assumption)
         have hx13 := bt_at a0 x4_1
         replace p13 := eq_true p13
         replace q13 := eq_true q13
         go_wp2_with (first | ((with_reducible refine gate_builtin (b := .append) (xs := #[.tmp 22,.tmp 23]) rfl ?_);at_builtin;refine Kd.R_append (Kd.int .u8) (w0 := w) w.heap.size rfl (.tmp 22) (.tmp 23) 34 5 (.int .u8 0) 1 rfl Tryz.underlying34 info5 rfl (by decide) (by omega) u3 x3_1 92 [.int .u8 92] (fun _ => True) (fun _ => False) rfl rfl ?aP (fun _ hk => hk.elim) ?aF ?aO ?aB ?aS ?aL ?_;(case aP => exact rfl);(case aB => exact (by repeat (first | (with_reducible first | exact HB.out | apply qj | apply qz | apply qk) | exact HB.out)));(case aF => exact (fun _ _ => trivial));(case aO => exact (by (with_reducible repeat (first | apply Kd.jq | apply Kd.zx | apply Kd.jz));exact HO_3.out));(case aS => exact (zw (by repeat (first | (with_reducible first | exact HB.out | apply qj | apply qz | apply qk) | exact HB.out))));(case aL => have := LMc15.out;omega);intro v111 w18 ho hb hg hat;rw [← Ny110.out] at ho;have n0_ := qq.mk (hb);have n1_ := qq.mk (ho);clear HB;clear HO_3;have HB := n0_;have HO112 := n1_;clear n0_ n1_;clear ho hb hg hat;have p16 : 0 ≤ (x4_1 : Int) := of_decide_eq_true (by assumption);have q16 : x4_1 < (a0.size : Int) := of_decide_eq_true (by assumption);have hx16 := bt_at a0 x4_1;replace p16 := eq_true p16;replace q16 := eq_true q16) | ((with_reducible refine gate_builtin (b := .append) (xs := #[.tmp 25,.tmp 29]) rfl ?_);at_builtin;refine Kd.R_append (Kd.int .u8) (w0 := w) w.heap.size rfl (.tmp 25) (.tmp 29) 34 5 (.int .u8 0) 1 rfl Tryz.underlying34 info5 rfl (by decide) (by omega) v111 y110 (bt a0 x4_1) [.int .u8 (bt a0 x4_1)] (fun _ => True) (fun _ => False) rfl rfl ?aP (fun _ hk => hk.elim) ?aF ?aO ?aB ?aS ?aL ?_;(case aP => exact rfl);(case aB => exact (by repeat (first | (with_reducible first | exact HB.out | apply qj | apply qz | apply qk) | exact HB.out)));(case aF => exact (fun _ _ => trivial));(case aO => exact (by (with_reducible repeat (first | apply Kd.jq | apply Kd.zx | apply Kd.jz));exact HO112.out));(case aS => exact (zw (by repeat (first | (with_reducible first | exact HB.out | apply qj | apply qz | apply qk) | exact HB.out))));(case aL => have := LMc17.out;omega);intro v114 w19 ho hb hg hat;rw [← Ny113.out] at ho;have n0_ := qq.mk (hb);have n1_ := qq.mk (ho);clear HB;clear HO112;have HB := n0_;have HO115 := n1_;clear n0_ n1_;clear ho hb hg hat))
         go_roundg k1
         case measure => have := HK1.out;omega
         case rel => exact ⟨(y113),(wrap64 (x4_1 + 1)),(by first | rfl | (simp;done) | (simp [*];done)),H',⟨by have := HK1.out;omega⟩,⟨by (with_reducible repeat (first | apply Kd.jq | apply Kd.zx | apply Kd.jz));exact HO115.out⟩,⟨by repeat (first | (with_reducible first | exact HB.out | apply qj | apply qz | apply qk) | exact HB.out)⟩⟩
        ·rw [if_neg c17] at H
         exact absurd H (by simp)
       ·rw [if_neg c15] at H
        exact absurd H (by simp)
      ·rw [if_neg c14] at H
       have c14b0 : ((bt a0 x4_1) == 92) = false := beq_eq_false_iff_ne.mpr c14
       have c14b1 : ((bt a0 x4_1) != 92) = true := bne_iff_ne.mpr c14
       by_cases c21 : x3_1.length < 140737488355328
       ·rw [if_pos c21] at H
        have LMc21 := qq.mk c21
        clear c21
        obtain ⟨y116,hy116⟩ : ∃ y_ : List Int,y_ = (x3_1 ++ [bt a0 x4_1]) := ⟨_,rfl⟩
        replace H : (qqj.l0 k1 a0 y116 (wrap64 (x4_1 + 1))) = some r := by first | (rw [hy116];with_reducible exact H) | (have H2_ := (Option.bind_some _ _).symm.trans H;rw [hy116];with_reducible exact H2_) | (have H2_ := (Option.bind_some _ _).symm.trans H;with_reducible exact H2_) | with_reducible exact H | (rw [hy116];exact H) | exact H
        have Ny116 := qq.mk hy116
        clear hy116
        have H' := qq.mk H
        clear H
        have p6 : 0 ≤ (x4_1 : Int) := of_decide_eq_true (by assumption)
        have q6 : x4_1 < (a0.size : Int) := of_decide_eq_true (by assumption)
        have hx6 := bt_at a0 x4_1
        replace p6 := eq_true p6
        replace q6 := eq_true q6
        have p13 : 0 ≤ (x4_1 : Int) := of_decide_eq_true (by assumption)
        have q13 : x4_1 < (a0.size : Int) := of_decide_eq_true (by assumption)
        have hx13 := bt_at a0 x4_1
        replace p13 := eq_true p13
        replace q13 := eq_true q13
        have p20 : 0 ≤ (x4_1 : Int) := of_decide_eq_true (by assumption)
        have q20 : x4_1 < (a0.size : Int) := of_decide_eq_true (by assumption)
        have hx20 := bt_at a0 x4_1
        replace p20 := eq_true p20
        replace q20 := eq_true q20
        go_wp2_with (first | ((with_reducible refine gate_builtin (b := .append) (xs := #[.tmp 25,.tmp 29]) rfl ?_);at_builtin;refine Kd.R_append (Kd.int .u8) (w0 := w) w.heap.size rfl (.tmp 25) (.tmp 29) 34 5 (.int .u8 0) 1 rfl Tryz.underlying34 info5 rfl (by decide) (by omega) u3 x3_1 (bt a0 x4_1) [.int .u8 (bt a0 x4_1)] (fun _ => True) (fun _ => False) rfl rfl ?aP (fun _ hk => hk.elim) ?aF ?aO ?aB ?aS ?aL ?_;(case aP => exact rfl);(case aB => exact (by repeat (first | (with_reducible first | exact HB.out | apply qj | apply qz | apply qk) | exact HB.out)));(case aF => exact (fun _ _ => trivial));(case aO => exact (by (with_reducible repeat (first | apply Kd.jq | apply Kd.zx | apply Kd.jz));exact HO_3.out));(case aS => exact (zw (by repeat (first | (with_reducible first | exact HB.out | apply qj | apply qz | apply qk) | exact HB.out))));(case aL => have := LMc21.out;omega);intro v117 w22 ho hb hg hat;rw [← Ny116.out] at ho;have n0_ := qq.mk (hb);have n1_ := qq.mk (ho);clear HB;clear HO_3;have HB := n0_;have HO118 := n1_;clear n0_ n1_;clear ho hb hg hat))
        go_roundg k1
        case measure => have := HK1.out;omega
        case rel => exact ⟨(y116),(wrap64 (x4_1 + 1)),(by first | rfl | (simp;done) | (simp [*];done)),H',⟨by have := HK1.out;omega⟩,⟨by (with_reducible repeat (first | apply Kd.jq | apply Kd.zx | apply Kd.jz));exact HO118.out⟩,⟨by repeat (first | (with_reducible first | exact HB.out | apply qj | apply qz | apply qk) | exact HB.out)⟩⟩
       ·rw [if_neg c21] at H
        exact absurd H (by simp)
    ·rw [if_neg c5] at H
     exact absurd H (by simp)
   ·rw [if_neg c4] at H
    have c4b0 : decide (x4_1 < (a0.size : Int)) = false := decide_eq_false c4
    clear c4
    by_cases c23 : x3_1.length < 140737488355328
    ·rw [if_pos c23] at H
     have LMc23 := qq.mk c23
     clear c23
     obtain ⟨y119,hy119⟩ : ∃ y_ : List Int,y_ = (x3_1 ++ [34]) := ⟨_,rfl⟩
     replace H : (some (strOfNums y119)) = some r := by first | (rw [hy119];with_reducible exact H) | (have H2_ := (Option.bind_some _ _).symm.trans H;rw [hy119];with_reducible exact H2_) | (have H2_ := (Option.bind_some _ _).symm.trans H;with_reducible exact H2_) | with_reducible exact H | (rw [hy119];exact H) | exact H
     have Ny119 := qq.mk hy119
     clear hy119
     obtain rfl := Option.some.inj H
     go_wp2_with (first | ((with_reducible refine gate_builtin (b := .append) (xs := #[.tmp 31,.tmp 32]) rfl ?_);at_builtin;refine Kd.R_append (Kd.int .u8) (w0 := w) w.heap.size rfl (.tmp 31) (.tmp 32) 34 5 (.int .u8 0) 1 rfl Tryz.underlying34 info5 rfl (by decide) (by omega) u3 x3_1 34 [.int .u8 34] (fun _ => True) (fun _ => False) rfl rfl ?aP (fun _ hk => hk.elim) ?aF ?aO ?aB ?aS ?aL ?_;(case aP => exact rfl);(case aB => exact (by repeat (first | (with_reducible first | exact HB.out | apply qj | apply qz | apply qk) | exact HB.out)));(case aF => exact (fun _ _ => trivial));(case aO => exact (by (with_reducible repeat (first | apply Kd.jq | apply Kd.zx | apply Kd.jz));exact HO_3.out));(case aS => exact (zw (by repeat (first | (with_reducible first | exact HB.out | apply qj | apply qz | apply qk) | exact HB.out))));(case aL => have := LMc23.out;omega);intro v120 w24 ho hb hg hat;rw [← Ny119.out] at ho;have n0_ := qq.mk (hb);have n1_ := qq.mk (ho);clear HB;clear HO_3;have HB := n0_;have HO121 := n1_;clear n0_ n1_;clear ho hb hg hat;have hcv25 := own_string (P := Tryz.prog) Tryz.underlying34 Tryz.underlying5 Tryz.underlying9 (Kd.own_of_R HO121.out)))
     go_ret
     exact ⟨by first | rfl | (simp [*,jk,jj] <;> rfl),by repeat (first | (with_reducible first | exact HB.out | apply qj | apply qz | apply qk) | exact HB.out)⟩
    ·rw [if_neg c23] at H
     exact absurd H (by simp)
end Go.Proofs.YtnbbbjfjkhglhaaGreatDoor.Pr
