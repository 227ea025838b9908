/- The law FnExactGoodServer: whatever the input, the call returns true and the arguments read as before. No conditions. -/
import Derived.Test.YtakocdkcfjkmdaaFullFnExactGoodServerE
import Derived.Laws.Strings
import Derived.Test.YtakocdkcfjkmdaaRows
import Derived.WalkKit
import Derived.ProofKit
import Derived.OpenShut
import Derived.ShutString
import Derived.ChangeOld
import Derived.Below
namespace Go.Proofs.Ytakocdkcfjkmdaa.Pr
open Go.RowKit Go.Proofs.YtakocdkcfjkmdaaW.PrintWords Go.Proofs.YtakocdkcfjkmdaaW.PrintLast Go.Proofs.YtakocdkcfjkmdaaW.PrintMore
attribute [local go_sem] max2_int min2_int max_two min_two max_three min_three max_four min_four
set_option linter.unusedVariables false
set_option linter.unusedSimpArgs false
def xj.f (k : Nat) (l0_0 : List (S96)) (l0_1 : List Int) (a0_2 : Int) (a0_3 : Int) : Option (Bool) := (qqx.f k l0_0 l0_1 a0_2 a0_3 1048576).bind fun t102 => (if t102 < 0 then (some true) else ((qzw.f k l0_0 l0_1 a0_2 a0_3).bind fun bt103 => ((qjz.f k bt103.1 bt103.2.1 bt103.2.2.1 bt103.2.2.2).bind fun t111 => ((qzw.f k l0_0 l0_1 a0_2 a0_3).bind fun bt112 => ((vv.f k bt112.1 bt112.2.1 bt112.2.2.1 bt112.2.2.2).bind fun t121 => (if (t121 != t111) = true then (none) else ((qzw.f k l0_0 l0_1 a0_2 a0_3).bind fun bt122 => ((qqq.f k bt112.1 bt112.2.1 bt112.2.2.1 bt112.2.2.2 bt122.1 bt122.2.1 bt122.2.2.1 bt122.2.2.2).bind fun t130 => (if t130 = true then (some true) else (none))))))))))
set_option maxHeartbeats 8000000 in
set_option maxRecDepth 100000 in
theorem xj.calls (k : Nat) (A0_0 : Option Addr) (c0_0 : Nat) (l0_0 : List (S96)) (A0_1 : Option Addr) (c0_1 : Nat) (l0_1 : List Int) (a0_2 : Int) (a0_3 : Int) (r : Bool) (w : World) (hr0_0 : Kd.C k96 w A0_0 l0_0.length l0_0) (hc0_0 : l0_0.length ≤ c0_0) (hr0_1 : Kd.C (Kd.int .u8) w A0_1 l0_1.length l0_1) (hc0_1 : l0_1.length ≤ c0_1) (h : xj.f k l0_0 l0_1 a0_2 a0_3 = some r) :
  Calls Try.prog 5 #[.agg #[.slice A0_0 l0_0.length c0_0,.slice A0_1 l0_1.length c0_1,.int .i64 a0_2,.int .i64 a0_3]] w fun e w' => e = .returned (.bool r) ∧ Below w.heap.size w w' := by
 have hu40 := Try.underlying40
 have hu45 := Try.underlying45
 have HR0_0 := qq.mk hr0_0
 have HC0_0 := qq.mk hc0_0
 clear hr0_0 hc0_0
 have HR0_1 := qq.mk hr0_1
 have HC0_1 := qq.mk hc0_1
 clear hr0_1 hc0_1
 have HB := qq.mk (Below.refl w.heap.size w)
 have H : ((qqx.f k l0_0 l0_1 a0_2 a0_3 1048576).bind fun t102 => (if t102 < 0 then (some true) else ((qzw.f k l0_0 l0_1 a0_2 a0_3).bind fun bt103 => ((qjz.f k bt103.1 bt103.2.1 bt103.2.2.1 bt103.2.2.2).bind fun t111 => ((qzw.f k l0_0 l0_1 a0_2 a0_3).bind fun bt112 => ((vv.f k bt112.1 bt112.2.1 bt112.2.2.1 bt112.2.2.2).bind fun t121 => (if (t121 != t111) = true then (none) else ((qzw.f k l0_0 l0_1 a0_2 a0_3).bind fun bt122 => ((qqq.f k bt112.1 bt112.2.1 bt112.2.2.1 bt112.2.2.2 bt122.1 bt122.2.1 bt122.2.2.1 bt122.2.2.2).bind fun t130 => (if t130 = true then (some true) else (none))))))))))) = some r := h
 clear h
 replace H := Option.bind_eq_some_iff.mp H
 obtain ⟨t102,A20,H⟩ := H
 replace H : (if t102 < 0 then (some true) else ((qzw.f k l0_0 l0_1 a0_2 a0_3).bind fun bt103 => ((qjz.f k bt103.1 bt103.2.1 bt103.2.2.1 bt103.2.2.2).bind fun t111 => ((qzw.f k l0_0 l0_1 a0_2 a0_3).bind fun bt112 => ((vv.f k bt112.1 bt112.2.1 bt112.2.2.1 bt112.2.2.2).bind fun t121 => (if (t121 != t111) = true then (none) else ((qzw.f k l0_0 l0_1 a0_2 a0_3).bind fun bt122 => ((qqq.f k bt112.1 bt112.2.1 bt112.2.2.1 bt112.2.2.2 bt122.1 bt122.2.1 bt122.2.2.1 bt122.2.2.2).bind fun t130 => (if t130 = true then (some true) else (none)))))))))) = some r := H
 have A2 := qq.mk A20
 clear A20
 by_cases c3 : t102 < 0
 ·rw [if_pos c3] at H
  have c3b0 : decide (t102 < 0) = true := decide_eq_true c3
  clear c3
  obtain rfl := Option.some.inj H
  go_enter Try.func5,Try.ntmps5
  go_wp2_with (first | ((with_reducible refine gate_dst (N := 1) rfl ?_);refine box_event ?hg (N := 1) ?hd (cs := #[.slice A0_0 l0_0.length c0_0,.slice A0_1 l0_1.length c0_1,.int .i64 a0_2,.int .i64 a0_3]) (t := 40) ?hr ?_;(case hd => rfl);(case hg => rfl);(case hr => first | (go_simp;done) | (go_simp;rfl));intro gb101 hg w4 hbox hb;have n0_ := qq.mk (zv (by repeat (first | (with_reducible first | exact HB.out | apply qj | apply qz | apply qk) | exact HB.out)) hb);have n1_ := qq.mk (hbox);have n2_ := qq.mk ((by rw [hg];exact (zw (by repeat (first | (with_reducible first | exact HB.out | apply qj | apply qz | apply qk) | exact HB.out))) : w.heap.size ≤ gb101));have n3_ := qq.mk ((by rw [hg];exact (zw (by repeat (first | (with_reducible first | exact HB.out | apply qj | apply qz | apply qk) | exact HB.out))) : w.heap.size ≤ gb101));clear HB;have HB := n0_;have BK101 := n1_;have GW101 := n2_;have GE101 := n3_;clear n0_ n1_ n2_ n3_;clear hb hbox hg;have hcz5_0 : w4.cell? ⟨gb101,0,none⟩ = some (.slice A0_0 l0_0.length c0_0) := (qw BK101.out 0).trans rfl;have hcz5_1 : w4.cell? ⟨gb101,1,none⟩ = some (.slice A0_1 l0_1.length c0_1) := (qw BK101.out 1).trans rfl;have hcz5_2 : w4.cell? ⟨gb101,2,none⟩ = some (.int .i64 a0_2) := (qw BK101.out 2).trans rfl;have hcz5_3 : w4.cell? ⟨gb101,3,none⟩ = some (.int .i64 a0_3) := (qw BK101.out 3).trans rfl;have hfz5_0 := qv BK101.out 0;have hfz5_1 := qv BK101.out 1;have hfz5_2 := qv BK101.out 2;have hfz5_3 := qv BK101.out 3) | ((with_reducible refine jv (f := 18) rfl ?_);refine goesL_ (some 9) rfl rfl Try.func18 (by kernel_rfl) rfl #[.agg #[.slice A0_0 l0_0.length c0_0,.slice A0_1 l0_1.length c0_1,.int .i64 a0_2,.int .i64 a0_3],.int .i64 1048576] rfl (by (try simp only [List.map_toArray,List.map_cons,List.map_nil]);first | done | rfl | (simp only [List.length_drop,List.length_take];rfl)) ?_;(with_reducible refine (qqx.calls k _ _ l0_0 _ _ l0_1 a0_2 a0_3 1048576 t102 _ ?side1 ?side2 ?side3 ?side4 A2.out).mono ?_);(case side1 => repeat (first | exact (Kd.C_below HR0_0.out HB.out) | (with_reducible refine Kd.C_alloc ?_ _) | (with_reducible refine Kd.C_drewN ?_ _) | (with_reducible refine Kd.C_drew ?_)));(case side2 => exact HC0_0.out);(case side3 => repeat (first | exact (Kd.C_below HR0_1.out HB.out) | (with_reducible refine Kd.C_alloc ?_ _) | (with_reducible refine Kd.C_drewN ?_ _) | (with_reducible refine Kd.C_drew ?_)));(case side4 => exact HC0_1.out);rintro e w6 ⟨rfl,hb⟩;refine ⟨_,rfl,?_⟩;have n0_ := qq.mk (kw (g := gb101) (o := .cells #[.slice A0_0 l0_0.length c0_0,.slice A0_1 l0_1.length c0_1,.int .i64 a0_2,.int .i64 a0_3] 40 (0,0)) (by (with_reducible repeat (first | refine zz ?_ _ | refine zj ?_ | refine zq ?_ _));exact BK101.out) hb);have n1_ := qq.mk (zv (by repeat (first | (with_reducible first | exact HB.out | apply qj | apply qz | apply qk | refine qx ?_ GE101.out) | exact HB.out)) hb);clear BK101;clear HB;have BK101 := n0_;have HB := n1_;clear n0_ n1_;(try clear hb);(try clear hb2);(try clear hk);(try clear hi)))
  go_ret
  exact ⟨by first | rfl | (simp [*,jk,jj] <;> rfl),by repeat (first | (with_reducible first | exact HB.out | apply qj | apply qz | apply qk | refine qx ?_ GE101.out) | exact HB.out)⟩
 ·rw [if_neg c3] at H
  have c3b0 : decide (t102 < 0) = false := decide_eq_false c3
  clear c3
  replace H := Option.bind_eq_some_iff.mp H
  obtain ⟨⟨t103,t106,t109,t110⟩,A70,H⟩ := H
  replace H : ((qjz.f k t103 t106 t109 t110).bind fun t111 => ((qzw.f k l0_0 l0_1 a0_2 a0_3).bind fun bt112 => ((vv.f k bt112.1 bt112.2.1 bt112.2.2.1 bt112.2.2.2).bind fun t121 => (if (t121 != t111) = true then (none) else ((qzw.f k l0_0 l0_1 a0_2 a0_3).bind fun bt122 => ((qqq.f k bt112.1 bt112.2.1 bt112.2.2.1 bt112.2.2.2 bt122.1 bt122.2.1 bt122.2.2.1 bt122.2.2.2).bind fun t130 => (if t130 = true then (some true) else (none)))))))) = some r := H
  have A7 := qq.mk A70
  clear A70
  replace H := Option.bind_eq_some_iff.mp H
  obtain ⟨t111,A80,H⟩ := H
  replace H : ((qzw.f k l0_0 l0_1 a0_2 a0_3).bind fun bt112 => ((vv.f k bt112.1 bt112.2.1 bt112.2.2.1 bt112.2.2.2).bind fun t121 => (if (t121 != t111) = true then (none) else ((qzw.f k l0_0 l0_1 a0_2 a0_3).bind fun bt122 => ((qqq.f k bt112.1 bt112.2.1 bt112.2.2.1 bt112.2.2.2 bt122.1 bt122.2.1 bt122.2.2.1 bt122.2.2.2).bind fun t130 => (if t130 = true then (some true) else (none))))))) = some r := H
  have A8 := qq.mk A80
  clear A80
  replace H := Option.bind_eq_some_iff.mp H
  obtain ⟨⟨t112,t115,t118,t119⟩,A90,H⟩ := H
  replace H : ((vv.f k t112 t115 t118 t119).bind fun t121 => (if (t121 != t111) = true then (none) else ((qzw.f k l0_0 l0_1 a0_2 a0_3).bind fun bt122 => ((qqq.f k t112 t115 t118 t119 bt122.1 bt122.2.1 bt122.2.2.1 bt122.2.2.2).bind fun t130 => (if t130 = true then (some true) else (none)))))) = some r := H
  have A9 := qq.mk A90
  clear A90
  replace H := Option.bind_eq_some_iff.mp H
  obtain ⟨t121,A100,H⟩ := H
  replace H : (if (t121 != t111) = true then (none) else ((qzw.f k l0_0 l0_1 a0_2 a0_3).bind fun bt122 => ((qqq.f k t112 t115 t118 t119 bt122.1 bt122.2.1 bt122.2.2.1 bt122.2.2.2).bind fun t130 => (if t130 = true then (some true) else (none))))) = some r := H
  have A10 := qq.mk A100
  clear A100
  by_cases c11 : (t121 != t111) = true
  ·rw [if_pos c11] at H
   exact absurd H (by simp)
  ·rw [if_neg c11] at H
   have c11b0 : (t121 != t111) = false := by simpa using c11
   (try (have c11b1 : decide (t121 = t111) = true := by simpa using c11))
   (try (have c11b2 : (t121 == t111) = true := by simpa using c11))
   clear c11
   replace H := Option.bind_eq_some_iff.mp H
   obtain ⟨⟨t122,t125,t128,t129⟩,A120,H⟩ := H
   replace H : ((qqq.f k t112 t115 t118 t119 t122 t125 t128 t129).bind fun t130 => (if t130 = true then (some true) else (none))) = some r := H
   have A12 := qq.mk A120
   clear A120
   replace H := Option.bind_eq_some_iff.mp H
   obtain ⟨t130,A130,H⟩ := H
   replace H : (if t130 = true then (some true) else (none)) = some r := H
   have A13 := qq.mk A130
   clear A130
   by_cases c14 : t130 = true
   ·subst c14
    have H1 : (some true) = some r := by rw [if_pos rfl] at H;exact H
    clear H
    have H := H1
    clear H1
    obtain rfl := Option.some.inj H
    go_enter Try.func5,Try.ntmps5
    try go_wp2_with (first | ((with_reducible refine gate_dst (N := 1) rfl ?_);refine box_event ?hg (N := 1) ?hd (cs := #[.slice A0_0 l0_0.length c0_0,.slice A0_1 l0_1.length c0_1,.int .i64 a0_2,.int .i64 a0_3]) (t := 40) ?hr ?_;(case hd => rfl);(case hg => rfl);(case hr => first | (go_simp;done) | (go_simp;rfl));intro gb101 hg w15 hbox hb;have n0_ := qq.mk (zv (by repeat (first | (with_reducible first | exact HB.out | apply qj | apply qz | apply qk) | exact HB.out)) hb);have n1_ := qq.mk (hbox);have n2_ := qq.mk ((by rw [hg];exact (zw (by repeat (first | (with_reducible first | exact HB.out | apply qj | apply qz | apply qk) | exact HB.out))) : w.heap.size ≤ gb101));have n3_ := qq.mk ((by rw [hg];exact (zw (by repeat (first | (with_reducible first | exact HB.out | apply qj | apply qz | apply qk) | exact HB.out))) : w.heap.size ≤ gb101));clear HB;have HB := n0_;have BK101 := n1_;have GW101 := n2_;have GE101 := n3_;clear n0_ n1_ n2_ n3_;clear hb hbox hg;have hcz16_0 : w15.cell? ⟨gb101,0,none⟩ = some (.slice A0_0 l0_0.length c0_0) := (qw BK101.out 0).trans rfl;have hcz16_1 : w15.cell? ⟨gb101,1,none⟩ = some (.slice A0_1 l0_1.length c0_1) := (qw BK101.out 1).trans rfl;have hcz16_2 : w15.cell? ⟨gb101,2,none⟩ = some (.int .i64 a0_2) := (qw BK101.out 2).trans rfl;have hcz16_3 : w15.cell? ⟨gb101,3,none⟩ = some (.int .i64 a0_3) := (qw BK101.out 3).trans rfl;have hfz16_0 := qv BK101.out 0;have hfz16_1 := qv BK101.out 1;have hfz16_2 := qv BK101.out 2;have hfz16_3 := qv BK101.out 3) | ((with_reducible refine jv (f := 18) rfl ?_);refine goesL_ (some 9) rfl rfl Try.func18 (by kernel_rfl) rfl #[.agg #[.slice A0_0 l0_0.length c0_0,.slice A0_1 l0_1.length c0_1,.int .i64 a0_2,.int .i64 a0_3],.int .i64 1048576] rfl (by (try simp only [List.map_toArray,List.map_cons,List.map_nil]);first | done | rfl | (simp only [List.length_drop,List.length_take];rfl)) ?_;(with_reducible refine (qqx.calls k _ _ l0_0 _ _ l0_1 a0_2 a0_3 1048576 t102 _ ?side1 ?side2 ?side3 ?side4 A2.out).mono ?_);(case side1 => repeat (first | exact (Kd.C_below HR0_0.out HB.out) | (with_reducible refine Kd.C_alloc ?_ _) | (with_reducible refine Kd.C_drewN ?_ _) | (with_reducible refine Kd.C_drew ?_)));(case side2 => exact HC0_0.out);(case side3 => repeat (first | exact (Kd.C_below HR0_1.out HB.out) | (with_reducible refine Kd.C_alloc ?_ _) | (with_reducible refine Kd.C_drewN ?_ _) | (with_reducible refine Kd.C_drew ?_)));(case side4 => exact HC0_1.out);rintro e w17 ⟨rfl,hb⟩;refine ⟨_,rfl,?_⟩;have n0_ := qq.mk (kw (g := gb101) (o := .cells #[.slice A0_0 l0_0.length c0_0,.slice A0_1 l0_1.length c0_1,.int .i64 a0_2,.int .i64 a0_3] 40 (0,0)) (by (with_reducible repeat (first | refine zz ?_ _ | refine zj ?_ | refine zq ?_ _));exact BK101.out) hb);have n1_ := qq.mk (zv (by repeat (first | (with_reducible first | exact HB.out | apply qj | apply qz | apply qk | refine qx ?_ GE101.out) | exact HB.out)) hb);clear BK101;clear HB;have BK101 := n0_;have HB := n1_;clear n0_ n1_;(try clear hb);(try clear hb2);(try clear hk);(try clear hi);have hcz18_0 : w17.cell? ⟨gb101,0,none⟩ = some (.slice A0_0 l0_0.length c0_0) := (qw BK101.out 0).trans rfl;have hcz18_1 : w17.cell? ⟨gb101,1,none⟩ = some (.slice A0_1 l0_1.length c0_1) := (qw BK101.out 1).trans rfl;have hcz18_2 : w17.cell? ⟨gb101,2,none⟩ = some (.int .i64 a0_2) := (qw BK101.out 2).trans rfl;have hcz18_3 : w17.cell? ⟨gb101,3,none⟩ = some (.int .i64 a0_3) := (qw BK101.out 3).trans rfl;have hfz18_0 := qv BK101.out 0;have hfz18_1 := qv BK101.out 1;have hfz18_2 := qv BK101.out 2;have hfz18_3 := qv BK101.out 3) | ((with_reducible refine jv (f := 20) rfl ?_);refine goesL_ (some 13) rfl rfl Try.func20 (by kernel_rfl) rfl #[.agg #[.slice A0_0 l0_0.length c0_0,.slice A0_1 l0_1.length c0_1,.int .i64 a0_2,.int .i64 a0_3]] rfl (by (try simp only [List.map_toArray,List.map_cons,List.map_nil]);first | done | rfl | (simp only [List.length_drop,List.length_take];rfl)) ?_;(with_reducible refine (qzw.calls k _ _ l0_0 _ _ l0_1 a0_2 a0_3 t103 t106 t109 t110 _ ?side1 ?side2 ?side3 ?side4 A7.out).mono ?_);(case side1 => repeat (first | exact (Kd.C_below HR0_0.out HB.out) | (with_reducible refine Kd.C_alloc ?_ _) | (with_reducible refine Kd.C_drewN ?_ _) | (with_reducible refine Kd.C_drew ?_)));(case side2 => exact HC0_0.out);(case side3 => repeat (first | exact (Kd.C_below HR0_1.out HB.out) | (with_reducible refine Kd.C_alloc ?_ _) | (with_reducible refine Kd.C_drewN ?_ _) | (with_reducible refine Kd.C_drew ?_)));(case side4 => exact HC0_1.out);rintro e w19 ⟨v104,v107,rfl,ho0,ho1,hb⟩;refine ⟨_,rfl,?_⟩;have n0_ := qq.mk (Kd.S_lower ho0 (zw (by repeat (first | (with_reducible first | exact HB.out | apply qj | apply qz | apply qk | refine qx ?_ GE101.out) | exact HB.out))));have n1_ := qq.mk (Kd.R_lower ho1 (zw (by repeat (first | (with_reducible first | exact HB.out | apply qj | apply qz | apply qk | refine qx ?_ GE101.out) | exact HB.out))));have n2_ := qq.mk (kw (g := gb101) (o := .cells #[.slice A0_0 l0_0.length c0_0,.slice A0_1 l0_1.length c0_1,.int .i64 a0_2,.int .i64 a0_3] 40 (0,0)) (by (with_reducible repeat (first | refine zz ?_ _ | refine zj ?_ | refine zq ?_ _));exact BK101.out) hb);have n3_ := qq.mk (zv (by repeat (first | (with_reducible first | exact HB.out | apply qj | apply qz | apply qk | refine qx ?_ GE101.out) | exact HB.out)) hb);clear BK101;clear HB;have HO105 := n0_;have HO108 := n1_;have BK101 := n2_;have HB := n3_;clear n0_ n1_ n2_ n3_;(try clear hb);(try clear hb2);(try clear hk);(try clear hi);(try clear ho0);(try clear ho1);obtain ⟨Ao20,co20,eo20⟩ := Kd.S_slice HO105.out;subst eo20;obtain ⟨Ao21,co21,eo21⟩ := Kd.R_slice HO108.out;subst eo21) | ((with_reducible refine jv (f := 19) rfl ?_);refine goesL_ (some 14) rfl rfl Try.func19 (by kernel_rfl) rfl #[.agg #[.slice Ao20 t103.length co20,.slice Ao21 t106.length co21,.int .i64 t109,.int .i64 t110]] rfl (by (try simp only [List.map_toArray,List.map_cons,List.map_nil]);first | done | rfl | (simp only [List.length_drop,List.length_take];rfl)) ?_;(with_reducible refine (qjz.calls k _ _ t103 _ _ t106 t109 t110 t111 _ ?side1 ?side2 ?side3 ?side4 A8.out).mono ?_);(case side1 => repeat (first | exact (Kd.S_reads' HO105.out).2.2 | (with_reducible refine Kd.C_alloc ?_ _) | (with_reducible refine Kd.C_drewN ?_ _) | (with_reducible refine Kd.C_drew ?_)));(case side2 => exact (Kd.S_reads' HO105.out).2.1);(case side3 => repeat (first | exact (Kd.R_reads' HO108.out).2.2 | (with_reducible refine Kd.C_alloc ?_ _) | (with_reducible refine Kd.C_drewN ?_ _) | (with_reducible refine Kd.C_drew ?_)));(case side4 => exact (Kd.R_reads' HO108.out).2.1);rintro e w22 ⟨rfl,hb⟩;refine ⟨_,rfl,?_⟩;have n0_ := qq.mk (Kd.S_below (by (with_reducible repeat (first | apply Kd.kk | apply Kd.kj | apply Kd.kv));exact HO105.out) hb);have n1_ := qq.mk (Kd.R_below (by (with_reducible repeat (first | apply Kd.jq | apply Kd.zx | apply Kd.jz));exact HO108.out) hb);have n2_ := qq.mk (kw (g := gb101) (o := .cells #[.slice A0_0 l0_0.length c0_0,.slice A0_1 l0_1.length c0_1,.int .i64 a0_2,.int .i64 a0_3] 40 (0,0)) (by (with_reducible repeat (first | refine zz ?_ _ | refine zj ?_ | refine zq ?_ _));exact BK101.out) hb);have n3_ := qq.mk (zv (by repeat (first | (with_reducible first | exact HB.out | apply qj | apply qz | apply qk | refine qx ?_ GE101.out) | exact HB.out)) hb);clear HO105;clear HO108;clear BK101;clear HB;have HO105 := n0_;have HO108 := n1_;have BK101 := n2_;have HB := n3_;clear n0_ n1_ n2_ n3_;(try clear hb);(try clear hb2);(try clear hk);(try clear hi);have hcz23_0 : w22.cell? ⟨gb101,0,none⟩ = some (.slice A0_0 l0_0.length c0_0) := (qw BK101.out 0).trans rfl;have hcz23_1 : w22.cell? ⟨gb101,1,none⟩ = some (.slice A0_1 l0_1.length c0_1) := (qw BK101.out 1).trans rfl;have hcz23_2 : w22.cell? ⟨gb101,2,none⟩ = some (.int .i64 a0_2) := (qw BK101.out 2).trans rfl;have hcz23_3 : w22.cell? ⟨gb101,3,none⟩ = some (.int .i64 a0_3) := (qw BK101.out 3).trans rfl;have hfz23_0 := qv BK101.out 0;have hfz23_1 := qv BK101.out 1;have hfz23_2 := qv BK101.out 2;have hfz23_3 := qv BK101.out 3) | ((with_reducible refine jv (f := 20) rfl ?_);refine goesL_ (some 16) rfl rfl Try.func20 (by kernel_rfl) rfl #[.agg #[.slice A0_0 l0_0.length c0_0,.slice A0_1 l0_1.length c0_1,.int .i64 a0_2,.int .i64 a0_3]] rfl (by (try simp only [List.map_toArray,List.map_cons,List.map_nil]);first | done | rfl | (simp only [List.length_drop,List.length_take];rfl)) ?_;(with_reducible refine (qzw.calls k _ _ l0_0 _ _ l0_1 a0_2 a0_3 t112 t115 t118 t119 _ ?side1 ?side2 ?side3 ?side4 A9.out).mono ?_);(case side1 => repeat (first | exact (Kd.C_below HR0_0.out HB.out) | (with_reducible refine Kd.C_alloc ?_ _) | (with_reducible refine Kd.C_drewN ?_ _) | (with_reducible refine Kd.C_drew ?_)));(case side2 => exact HC0_0.out);(case side3 => repeat (first | exact (Kd.C_below HR0_1.out HB.out) | (with_reducible refine Kd.C_alloc ?_ _) | (with_reducible refine Kd.C_drewN ?_ _) | (with_reducible refine Kd.C_drew ?_)));(case side4 => exact HC0_1.out);rintro e w24 ⟨v113,v116,rfl,ho0,ho1,hb⟩;refine ⟨_,rfl,?_⟩;have n0_ := qq.mk (Kd.S_mono (Kd.S_told (Kd.S_told (Kd.S_old (by (with_reducible repeat (first | apply Kd.kk | apply Kd.kj | apply Kd.kv));exact HO105.out) hb) (Kd.S_base ho0)) (Kd.R_base ho1)) (fun _ h_ => h_.1));have n1_ := qq.mk (Kd.R_elder' (by (with_reducible repeat (first | apply Kd.jq | apply Kd.zx | apply Kd.jz));exact HO108.out) (Kd.R_base ho1) hb);have n2_ := qq.mk (Kd.S_lower (Kd.S_new' (Kd.S_new' ho0 (Kd.S_lt (by (with_reducible repeat (first | apply Kd.kk | apply Kd.kj | apply Kd.kv));exact HO105.out))) (Kd.R_lt (by (with_reducible repeat (first | apply Kd.jq | apply Kd.zx | apply Kd.jz));exact HO108.out))) (zw (by repeat (first | (with_reducible first | exact HB.out | apply qj | apply qz | apply qk | refine qx ?_ GE101.out) | exact HB.out))));have n3_ := qq.mk (Kd.R_lower (Kd.R_new' ho1 (Kd.R_lt (by (with_reducible repeat (first | apply Kd.jq | apply Kd.zx | apply Kd.jz));exact HO108.out))) (zw (by repeat (first | (with_reducible first | exact HB.out | apply qj | apply qz | apply qk | refine qx ?_ GE101.out) | exact HB.out))));have n4_ := qq.mk (kw (g := gb101) (o := .cells #[.slice A0_0 l0_0.length c0_0,.slice A0_1 l0_1.length c0_1,.int .i64 a0_2,.int .i64 a0_3] 40 (0,0)) (by (with_reducible repeat (first | refine zz ?_ _ | refine zj ?_ | refine zq ?_ _));exact BK101.out) hb);have n5_ := qq.mk (zv (by repeat (first | (with_reducible first | exact HB.out | apply qj | apply qz | apply qk | refine qx ?_ GE101.out) | exact HB.out)) hb);clear HO105;clear HO108;clear BK101;clear HB;have HO105 := n0_;have HO108 := n1_;have HO114 := n2_;have HO117 := n3_;have BK101 := n4_;have HB := n5_;clear n0_ n1_ n2_ n3_ n4_ n5_;(try clear hb);(try clear hb2);(try clear hk);(try clear hi);(try clear ho0);(try clear ho1)) | ((with_reducible refine gate_dst (N := 5) rfl ?_);refine box_event ?hg (N := 5) ?hd (cs := #[.slice none 0 0,.slice none 0 0,.int .i64 0,.int .i64 0]) (t := 45) ?hr ?_;(case hd => rfl);(case hg => rfl);(case hr => first | (go_simp;done) | (go_simp;rfl));intro gb120 hg w25 hbox hb;have n0_ := qq.mk (Kd.S_below (by (with_reducible repeat (first | apply Kd.kk | apply Kd.kj | apply Kd.kv));exact HO105.out) hb);have n1_ := qq.mk (Kd.R_below (by (with_reducible repeat (first | apply Kd.jq | apply Kd.zx | apply Kd.jz));exact HO108.out) hb);have n2_ := qq.mk (Kd.S_below (by (with_reducible repeat (first | apply Kd.kk | apply Kd.kj | apply Kd.kv));exact HO114.out) hb);have n3_ := qq.mk (Kd.R_below (by (with_reducible repeat (first | apply Kd.jq | apply Kd.zx | apply Kd.jz));exact HO117.out) hb);have n4_ := qq.mk (kw (g := gb101) (o := .cells #[.slice A0_0 l0_0.length c0_0,.slice A0_1 l0_1.length c0_1,.int .i64 a0_2,.int .i64 a0_3] 40 (0,0)) (by (with_reducible repeat (first | refine zz ?_ _ | refine zj ?_ | refine zq ?_ _));exact BK101.out) hb);have n5_ := qq.mk (zv (by repeat (first | (with_reducible first | exact HB.out | apply qj | apply qz | apply qk | refine qx ?_ GE101.out) | exact HB.out)) hb);have n6_ := qq.mk (hbox);have n7_ := qq.mk ((by rw [hg];exact (zw (by repeat (first | (with_reducible first | exact HB.out | apply qj | apply qz | apply qk | refine qx ?_ GE101.out) | exact HB.out))) : w.heap.size ≤ gb120));have n8_ := qq.mk ((by rw [hg];exact (zw (by repeat (first | (with_reducible first | exact HB.out | apply qj | apply qz | apply qk | refine qx ?_ GE101.out) | exact HB.out))) : w.heap.size ≤ gb120));have n9_ := qq.mk ((by rw [hg];exact Nat.ne_of_lt (blk_lt (g := gb101) (o := .cells #[.slice A0_0 l0_0.length c0_0,.slice A0_1 l0_1.length c0_1,.int .i64 a0_2,.int .i64 a0_3] 40 (0,0)) (by (with_reducible repeat (first | refine zz ?_ _ | refine zj ?_ | refine zq ?_ _));exact BK101.out)) : gb101 ≠ gb120));have n10_ := qq.mk ((by rw [hg];exact Nat.ne_of_gt (blk_lt (g := gb101) (o := .cells #[.slice A0_0 l0_0.length c0_0,.slice A0_1 l0_1.length c0_1,.int .i64 a0_2,.int .i64 a0_3] 40 (0,0)) (by (with_reducible repeat (first | refine zz ?_ _ | refine zj ?_ | refine zq ?_ _));exact BK101.out)) : gb120 ≠ gb101));clear HO105;clear HO108;clear HO114;clear HO117;clear BK101;clear HB;have HO105 := n0_;have HO108 := n1_;have HO114 := n2_;have HO117 := n3_;have BK101 := n4_;have HB := n5_;have BK120 := n6_;have GW120 := n7_;have GE120 := n8_;have NB101_120 := n9_;have NB120_101 := n10_;clear n0_ n1_ n2_ n3_ n4_ n5_ n6_ n7_ n8_ n9_ n10_;clear hb hbox hg;obtain ⟨Ao26,co26,eo26⟩ := Kd.S_slice HO114.out;subst eo26;have hnb27 := NB120_101.out;have hnc27 := NB101_120.out;have hcz28_0 : w25.cell? ⟨gb120,0,none⟩ = some (.slice none 0 0) := (qw BK120.out 0).trans rfl;have hcz28_1 : w25.cell? ⟨gb120,1,none⟩ = some (.slice none 0 0) := (qw BK120.out 1).trans rfl;have hcz28_2 : w25.cell? ⟨gb120,2,none⟩ = some (.int .i64 0) := (qw BK120.out 2).trans rfl;have hcz28_3 : w25.cell? ⟨gb120,3,none⟩ = some (.int .i64 0) := (qw BK120.out 3).trans rfl;have hfz28_0 := qv BK120.out 0;have hfz28_1 := qv BK120.out 1;have hfz28_2 := qv BK120.out 2;have hfz28_3 := qv BK120.out 3;obtain ⟨Ao29,co29,eo29⟩ := Kd.R_slice HO117.out;subst eo29) | ((with_reducible refine jv (f := 21) rfl ?_);refine goesL_ (some 18) rfl rfl Try.func21 (by kernel_rfl) rfl #[.agg #[.slice Ao26 t112.length co26,.slice Ao29 t115.length co29,.int .i64 t118,.int .i64 t119]] rfl (by (try simp only [List.map_toArray,List.map_cons,List.map_nil]);first | done | rfl | (simp only [List.length_drop,List.length_take];rfl)) ?_;(with_reducible refine (vv.calls k _ _ t112 _ _ t115 t118 t119 t121 _ ?side1 ?side2 ?side3 ?side4 A10.out).mono ?_);(case side1 => refine (Kd.S_reads' (e := 77) (base := w.heap.size) (ok := fun k_ => ((some k_ ≠ (.slice Ao29 t115.length co29 : Value).ownBlock ∧ some k_ ≠ (.slice Ao20 t103.length co20 : Value).ownBlock) ∧ some k_ ≠ (.slice Ao21 t106.length co21 : Value).ownBlock)) (n := t112.length) (c := co26) ?_).2.2;exact (by (with_reducible repeat (first | apply Kd.kk | apply Kd.kj | apply Kd.kv));exact (Kd.S_mono (Kd.S_far (p := ⟨gb120,3,none⟩) (Kd.S_far (p := ⟨gb120,2,none⟩) (Kd.S_far (p := ⟨gb120,1,none⟩) (Kd.S_far (p := ⟨gb120,0,none⟩) (Kd.S_types HO114.out BK120.out (by decide)) (fun _ hk => hk.2) (.slice Ao26 t112.length co26)) (fun _ hk => hk.2) (.slice Ao29 t115.length co29)) (fun _ hk => hk.2) (.int .i64 t118)) (fun _ hk => hk.2) (.int .i64 t119)) (fun _ h_ => h_.1))));(case side2 => exact (Kd.S_reads' HO114.out).2.1);(case side3 => refine (Kd.R_reads' (e := 5) (base := w.heap.size) (ok := fun k_ => (True ∧ some k_ ≠ (.slice Ao21 t106.length co21 : Value).ownBlock)) (n := t115.length) (c := co29) ?_).2.2;exact (by (with_reducible repeat (first | apply Kd.jq | apply Kd.zx | apply Kd.jz));exact (Kd.R_mono (Kd.R_far (p := ⟨gb120,3,none⟩) (Kd.R_far (p := ⟨gb120,2,none⟩) (Kd.R_far (p := ⟨gb120,1,none⟩) (Kd.R_far (p := ⟨gb120,0,none⟩) (Kd.R_types HO117.out BK120.out (by decide)) (fun _ hk => hk.2) (.slice Ao26 t112.length co26)) (fun _ hk => hk.2) (.slice Ao29 t115.length co29)) (fun _ hk => hk.2) (.int .i64 t118)) (fun _ hk => hk.2) (.int .i64 t119)) (fun _ h_ => h_.1))));(case side4 => exact (Kd.R_reads' HO117.out).2.1);rintro e w30 ⟨rfl,hb⟩;refine ⟨_,rfl,?_⟩;have n0_ := qq.mk (Kd.S_below (by (with_reducible repeat (first | apply Kd.kk | apply Kd.kj | apply Kd.kv));exact (Kd.S_mono (Kd.S_far (p := ⟨gb120,3,none⟩) (Kd.S_far (p := ⟨gb120,2,none⟩) (Kd.S_far (p := ⟨gb120,1,none⟩) (Kd.S_far (p := ⟨gb120,0,none⟩) (Kd.S_types HO105.out BK120.out (by decide)) (fun _ hk => hk.2) (.slice Ao26 t112.length co26)) (fun _ hk => hk.2) (.slice Ao29 t115.length co29)) (fun _ hk => hk.2) (.int .i64 t118)) (fun _ hk => hk.2) (.int .i64 t119)) (fun _ h_ => h_.1))) hb);have n1_ := qq.mk (Kd.R_below (by (with_reducible repeat (first | apply Kd.jq | apply Kd.zx | apply Kd.jz));exact (Kd.R_mono (Kd.R_far (p := ⟨gb120,3,none⟩) (Kd.R_far (p := ⟨gb120,2,none⟩) (Kd.R_far (p := ⟨gb120,1,none⟩) (Kd.R_far (p := ⟨gb120,0,none⟩) (Kd.R_types HO108.out BK120.out (by decide)) (fun _ hk => hk.2) (.slice Ao26 t112.length co26)) (fun _ hk => hk.2) (.slice Ao29 t115.length co29)) (fun _ hk => hk.2) (.int .i64 t118)) (fun _ hk => hk.2) (.int .i64 t119)) (fun _ h_ => h_.1))) hb);have n2_ := qq.mk (Kd.S_below (by (with_reducible repeat (first | apply Kd.kk | apply Kd.kj | apply Kd.kv));exact (Kd.S_mono (Kd.S_far (p := ⟨gb120,3,none⟩) (Kd.S_far (p := ⟨gb120,2,none⟩) (Kd.S_far (p := ⟨gb120,1,none⟩) (Kd.S_far (p := ⟨gb120,0,none⟩) (Kd.S_types HO114.out BK120.out (by decide)) (fun _ hk => hk.2) (.slice Ao26 t112.length co26)) (fun _ hk => hk.2) (.slice Ao29 t115.length co29)) (fun _ hk => hk.2) (.int .i64 t118)) (fun _ hk => hk.2) (.int .i64 t119)) (fun _ h_ => h_.1))) hb);have n3_ := qq.mk (Kd.R_below (by (with_reducible repeat (first | apply Kd.jq | apply Kd.zx | apply Kd.jz));exact (Kd.R_mono (Kd.R_far (p := ⟨gb120,3,none⟩) (Kd.R_far (p := ⟨gb120,2,none⟩) (Kd.R_far (p := ⟨gb120,1,none⟩) (Kd.R_far (p := ⟨gb120,0,none⟩) (Kd.R_types HO117.out BK120.out (by decide)) (fun _ hk => hk.2) (.slice Ao26 t112.length co26)) (fun _ hk => hk.2) (.slice Ao29 t115.length co29)) (fun _ hk => hk.2) (.int .i64 t118)) (fun _ hk => hk.2) (.int .i64 t119)) (fun _ h_ => h_.1))) hb);have n4_ := qq.mk (kw (g := gb101) (o := .cells #[.slice A0_0 l0_0.length c0_0,.slice A0_1 l0_1.length c0_1,.int .i64 a0_2,.int .i64 a0_3] 40 (0,0)) (by (with_reducible repeat (first | refine zz ?_ _ | refine zj ?_ | refine zq ?_ _));refine blk_far ?_ NB101_120.out _;(with_reducible repeat (first | refine zz ?_ _ | refine zj ?_ | refine zq ?_ _));refine blk_far ?_ NB101_120.out _;(with_reducible repeat (first | refine zz ?_ _ | refine zj ?_ | refine zq ?_ _));refine blk_far ?_ NB101_120.out _;(with_reducible repeat (first | refine zz ?_ _ | refine zj ?_ | refine zq ?_ _));refine blk_far ?_ NB101_120.out _;(with_reducible repeat (first | refine zz ?_ _ | refine zj ?_ | refine zq ?_ _));exact BK101.out) hb);have n5_ := qq.mk (kw (g := gb120) (o := .cells #[.slice Ao26 t112.length co26,.slice Ao29 t115.length co29,.int .i64 t118,.int .i64 t119] 45 (0,0)) (by (with_reducible repeat (first | refine zz ?_ _ | refine zj ?_ | refine zq ?_ _));refine blk_put (cs := #[.slice Ao26 t112.length co26,.slice Ao29 t115.length co29,.int .i64 t118,.int .i64 0]) ?_ 3 _ rfl;(with_reducible repeat (first | refine zz ?_ _ | refine zj ?_ | refine zq ?_ _));refine blk_put (cs := #[.slice Ao26 t112.length co26,.slice Ao29 t115.length co29,.int .i64 0,.int .i64 0]) ?_ 2 _ rfl;(with_reducible repeat (first | refine zz ?_ _ | refine zj ?_ | refine zq ?_ _));refine blk_put (cs := #[.slice Ao26 t112.length co26,.slice none 0 0,.int .i64 0,.int .i64 0]) ?_ 1 _ rfl;(with_reducible repeat (first | refine zz ?_ _ | refine zj ?_ | refine zq ?_ _));refine blk_put (cs := #[.slice none 0 0,.slice none 0 0,.int .i64 0,.int .i64 0]) ?_ 0 _ rfl;(with_reducible repeat (first | refine zz ?_ _ | refine zj ?_ | refine zq ?_ _));exact BK120.out) hb);have n6_ := qq.mk (zv (by repeat (first | (with_reducible first | exact HB.out | apply qj | apply qz | apply qk | refine qx ?_ GE101.out | refine qx ?_ GE120.out) | exact HB.out)) hb);clear HO105;clear HO108;clear HO114;clear HO117;clear BK101;clear BK120;clear HB;have HO105 := n0_;have HO108 := n1_;have HO114 := n2_;have HO117 := n3_;have BK101 := n4_;have BK120 := n5_;have HB := n6_;clear n0_ n1_ n2_ n3_ n4_ n5_ n6_;(try clear hb);(try clear hb2);(try clear hk);(try clear hi)))
    have n0_ := qq.mk (Kd.kv HO105.out)
    have n1_ := qq.mk (Kd.jz HO108.out)
    have n2_ := qq.mk (Kd.kv HO114.out)
    have n3_ := qq.mk (Kd.jz HO117.out)
    have n4_ := qq.mk (zj BK101.out)
    have n5_ := qq.mk (zj BK120.out)
    have n6_ := qq.mk (qk HB.out)
    clear HO105
    clear HO108
    clear HO114
    clear HO117
    clear BK101
    clear BK120
    clear HB
    have HO105 := n0_
    have HO108 := n1_
    have HO114 := n2_
    have HO117 := n3_
    have BK101 := n4_
    have BK120 := n5_
    have HB := n6_
    clear n0_ n1_ n2_ n3_ n4_ n5_ n6_
    refine start_ (n := 5) (S := fun w' => w'.cell? ⟨gb120,0,none⟩ = some (.slice Ao26 t112.length co26) ∧ w'.cell? ⟨gb120,1,none⟩ = some (.slice Ao29 t115.length co29) ∧ w'.cell? ⟨gb120,2,none⟩ = some (.int .i64 t118) ∧ w'.cell? ⟨gb120,3,none⟩ = some (.int .i64 t119) ∧ w'.cell? ⟨gb101,0,none⟩ = some (.slice A0_0 l0_0.length c0_0) ∧ w'.cell? ⟨gb101,1,none⟩ = some (.slice A0_1 l0_1.length c0_1) ∧ w'.cell? ⟨gb101,2,none⟩ = some (.int .i64 a0_2) ∧ w'.cell? ⟨gb101,3,none⟩ = some (.int .i64 a0_3)) (ds := []) #[false,false,false,false,false] (by kernel_rfl) rfl rfl ⟨(qw BK120.out 0).trans rfl,(qw BK120.out 1).trans rfl,(qw BK120.out 2).trans rfl,(qw BK120.out 3).trans rfl,(qw BK101.out 0).trans rfl,(qw BK101.out 1).trans rfl,(qw BK101.out 2).trans rfl,(qw BK101.out 3).trans rfl⟩ (fun hHeld => ?_)
    generalize w30.drew = w31 at HO105 HO108 HO114 HO117 BK101 BK120 HB hHeld ⊢
    refine take_ (i := 0) (N := some 22) (v := ?_) (a' := ?_) #[true,false,false,false,false] rfl rfl (by kernel_rfl) (fun _ _ _ h => h) (Or.inl ⟨by rfl,?_⟩) hHeld ?_ ?_
    rotate_left
    ·rintro w' ⟨s0,s1,s2,s3,s4,s5,s6,s7⟩
     go_simp
     with_reducible rfl
    rotate_left
    ·simp only [Act.put,List.setIfInBounds_toArray,List.set_cons_zero,List.set_cons_succ,i64_w,i32_w]
     rfl
    refine take_ (i := 1) (N := some 23) (v := ?_) (a' := ?_) #[true,true,false,false,false] rfl rfl (by kernel_rfl) (fun _ _ _ h => h) (Or.inl ⟨by rfl,?_⟩) hHeld ?_ ?_
    rotate_left
    ·rintro w' ⟨s0,s1,s2,s3,s4,s5,s6,s7⟩
     go_simp
     with_reducible rfl
    rotate_left
    ·simp only [Act.put,List.setIfInBounds_toArray,List.set_cons_zero,List.set_cons_succ,i64_w,i32_w]
     rfl
    refine one_ (i := 2) (N := some 24) #[true,true,true,false,false] rfl rfl (by kernel_rfl) (by decide) (fun K hK => ?_)
    refine goes_ Try.func20 (by kernel_rfl) rfl #[.agg #[.slice A0_0 l0_0.length c0_0,.slice A0_1 l0_1.length c0_1,.int .i64 a0_2,.int .i64 a0_3]] (by rfl) rfl rfl (by (try simp only [List.map_toArray,List.map_cons,List.map_nil]);first | done | rfl | (simp only [List.length_drop,List.length_take];rfl)) ?_
    with_reducible refine (qzw.calls k _ _ l0_0 _ _ l0_1 a0_2 a0_3 t122 t125 t128 t129 _ ?side1 ?side2 ?side3 ?side4 A12.out).mono ?_
    (case side1 => repeat (first | exact (Kd.C_below HR0_0.out HB.out) | (with_reducible refine Kd.C_alloc ?_ _) | (with_reducible refine Kd.C_drewN ?_ _) | (with_reducible refine Kd.C_drew ?_)))
    (case side2 => exact HC0_0.out)
    (case side3 => repeat (first | exact (Kd.C_below HR0_1.out HB.out) | (with_reducible refine Kd.C_alloc ?_ _) | (with_reducible refine Kd.C_drewN ?_ _) | (with_reducible refine Kd.C_drew ?_)))
    (case side4 => exact HC0_1.out)
    rintro e w32 ⟨v123,v126,rfl,ho0,ho1,hb⟩
    refine ⟨_,rfl,?_⟩
    have n0_ := qq.mk (Kd.S_mono (Kd.S_told (Kd.S_told (Kd.S_old (by (with_reducible repeat (first | apply Kd.kk | apply Kd.kj | apply Kd.kv));exact HO105.out) hb) (Kd.S_base ho0)) (Kd.R_base ho1)) (fun _ h_ => h_.1))
    have n1_ := qq.mk (Kd.R_elder' (by (with_reducible repeat (first | apply Kd.jq | apply Kd.zx | apply Kd.jz));exact HO108.out) (Kd.R_base ho1) hb)
    have n2_ := qq.mk (Kd.S_mono (Kd.S_told (Kd.S_told (Kd.S_old (by (with_reducible repeat (first | apply Kd.kk | apply Kd.kj | apply Kd.kv));exact HO114.out) hb) (Kd.S_base ho0)) (Kd.R_base ho1)) (fun _ h_ => h_.1))
    have n3_ := qq.mk (Kd.R_elder' (by (with_reducible repeat (first | apply Kd.jq | apply Kd.zx | apply Kd.jz));exact HO117.out) (Kd.R_base ho1) hb)
    have n4_ := qq.mk (Kd.S_lower (Kd.S_new' (Kd.S_new' (Kd.S_new' (Kd.S_new' ho0 (Kd.S_lt (by (with_reducible repeat (first | apply Kd.kk | apply Kd.kj | apply Kd.kv));exact HO105.out))) (Kd.R_lt (by (with_reducible repeat (first | apply Kd.jq | apply Kd.zx | apply Kd.jz));exact HO108.out))) (Kd.S_lt (by (with_reducible repeat (first | apply Kd.kk | apply Kd.kj | apply Kd.kv));exact HO114.out))) (Kd.R_lt (by (with_reducible repeat (first | apply Kd.jq | apply Kd.zx | apply Kd.jz));exact HO117.out))) (zw (by repeat (first | (with_reducible first | exact HB.out | apply qj | apply qz | apply qk | refine qx ?_ GE101.out | refine qx ?_ GE120.out) | exact HB.out))))
    have n5_ := qq.mk (Kd.R_lower (Kd.R_new' (Kd.R_new' ho1 (Kd.R_lt (by (with_reducible repeat (first | apply Kd.jq | apply Kd.zx | apply Kd.jz));exact HO108.out))) (Kd.R_lt (by (with_reducible repeat (first | apply Kd.jq | apply Kd.zx | apply Kd.jz));exact HO117.out))) (zw (by repeat (first | (with_reducible first | exact HB.out | apply qj | apply qz | apply qk | refine qx ?_ GE101.out | refine qx ?_ GE120.out) | exact HB.out))))
    have n6_ := qq.mk (kw (g := gb101) (o := .cells #[.slice A0_0 l0_0.length c0_0,.slice A0_1 l0_1.length c0_1,.int .i64 a0_2,.int .i64 a0_3] 40 (0,0)) (by (with_reducible repeat (first | refine zz ?_ _ | refine zj ?_ | refine zq ?_ _));exact BK101.out) hb)
    have n7_ := qq.mk (kw (g := gb120) (o := .cells #[.slice Ao26 t112.length co26,.slice Ao29 t115.length co29,.int .i64 t118,.int .i64 t119] 45 (0,0)) (by (with_reducible repeat (first | refine zz ?_ _ | refine zj ?_ | refine zq ?_ _));exact BK120.out) hb)
    have n8_ := qq.mk (zv (by repeat (first | (with_reducible first | exact HB.out | apply qj | apply qz | apply qk | refine qx ?_ GE101.out | refine qx ?_ GE120.out) | exact HB.out)) hb)
    clear HO105
    clear HO108
    clear HO114
    clear HO117
    clear BK101
    clear BK120
    clear HB
    have HO105 := n0_
    have HO108 := n1_
    have HO114 := n2_
    have HO117 := n3_
    have HO124 := n4_
    have HO127 := n5_
    have BK101 := n6_
    have BK120 := n7_
    have HB := n8_
    clear n0_ n1_ n2_ n3_ n4_ n5_ n6_ n7_ n8_
    (try clear hb)
    (try clear hb2)
    (try clear hk)
    (try clear hi)
    (try clear ho0)
    (try clear ho1)
    obtain ⟨Ao33,co33,eo33⟩ := Kd.S_slice HO124.out
    (first | subst eo33 | (injection eo33 with f1_ f2_ f3_;have f4_ := f1_.symm;have f5_ := f3_.symm;clear f1_ f2_ f3_;subst f4_;subst f5_))
    obtain ⟨Ao34,co34,eo34⟩ := Kd.R_slice HO127.out
    (first | subst eo34 | (injection eo34 with f1_ f2_ f3_;have f4_ := f1_.symm;have f5_ := f3_.symm;clear f1_ f2_ f3_;subst f4_;subst f5_))
    refine hK.out _ _ ⟨(qw BK120.out 0).trans rfl,(qw BK120.out 1).trans rfl,(qw BK120.out 2).trans rfl,(qw BK120.out 3).trans rfl,(qw BK101.out 0).trans rfl,(qw BK101.out 1).trans rfl,(qw BK101.out 2).trans rfl,(qw BK101.out 3).trans rfl⟩ (fun hHeld => ?_)
    clear hK K
    refine norm_ (a' := ?_) ?_ ?_
    rotate_left
    ·show Act.put _ (some 24) _ = _
     simp only [Act.put,List.setIfInBounds_toArray,List.set_cons_zero,List.set_cons_succ,i64_w,i32_w]
     rfl
    refine one_ (i := 3) (N := some 25) #[true,true,true,true,false] rfl rfl (by kernel_rfl) (by decide) (fun K hK => ?_)
    refine goes_ Try.func22 (by kernel_rfl) rfl #[.agg #[.slice Ao26 t112.length co26,.slice Ao29 t115.length co29,.int .i64 t118,.int .i64 t119],.agg #[.slice Ao33 t122.length co33,.slice Ao34 t125.length co34,.int .i64 t128,.int .i64 t129]] (by rfl) rfl rfl (by (try simp only [List.map_toArray,List.map_cons,List.map_nil]);first | done | rfl | (simp only [List.length_drop,List.length_take];rfl)) ?_
    with_reducible refine (qqq.calls k _ _ t112 _ _ t115 t118 t119 _ _ t122 _ _ t125 t128 t129 true _ ?side1 ?side2 ?side3 ?side4 ?side5 ?side6 ?side7 ?side8 A13.out).mono ?_
    (case side1 => repeat (first | exact (Kd.S_reads' HO114.out).2.2 | (with_reducible refine Kd.C_alloc ?_ _) | (with_reducible refine Kd.C_drewN ?_ _) | (with_reducible refine Kd.C_drew ?_)))
    (case side2 => exact (Kd.S_reads' HO114.out).2.1)
    (case side3 => repeat (first | exact (Kd.R_reads' HO117.out).2.2 | (with_reducible refine Kd.C_alloc ?_ _) | (with_reducible refine Kd.C_drewN ?_ _) | (with_reducible refine Kd.C_drew ?_)))
    (case side4 => exact (Kd.R_reads' HO117.out).2.1)
    (case side5 => repeat (first | exact (Kd.S_reads' HO124.out).2.2 | (with_reducible refine Kd.C_alloc ?_ _) | (with_reducible refine Kd.C_drewN ?_ _) | (with_reducible refine Kd.C_drew ?_)))
    (case side6 => exact (Kd.S_reads' HO124.out).2.1)
    (case side7 => repeat (first | exact (Kd.R_reads' HO127.out).2.2 | (with_reducible refine Kd.C_alloc ?_ _) | (with_reducible refine Kd.C_drewN ?_ _) | (with_reducible refine Kd.C_drew ?_)))
    (case side8 => exact (Kd.R_reads' HO127.out).2.1)
    rintro e w35 ⟨rfl,hb⟩
    refine ⟨_,rfl,?_⟩
    have n0_ := qq.mk (Kd.S_below (by (with_reducible repeat (first | apply Kd.kk | apply Kd.kj | apply Kd.kv));exact HO105.out) hb)
    have n1_ := qq.mk (Kd.R_below (by (with_reducible repeat (first | apply Kd.jq | apply Kd.zx | apply Kd.jz));exact HO108.out) hb)
    have n2_ := qq.mk (Kd.S_below (by (with_reducible repeat (first | apply Kd.kk | apply Kd.kj | apply Kd.kv));exact HO114.out) hb)
    have n3_ := qq.mk (Kd.R_below (by (with_reducible repeat (first | apply Kd.jq | apply Kd.zx | apply Kd.jz));exact HO117.out) hb)
    have n4_ := qq.mk (Kd.S_below (by (with_reducible repeat (first | apply Kd.kk | apply Kd.kj | apply Kd.kv));exact HO124.out) hb)
    have n5_ := qq.mk (Kd.R_below (by (with_reducible repeat (first | apply Kd.jq | apply Kd.zx | apply Kd.jz));exact HO127.out) hb)
    have n6_ := qq.mk (kw (g := gb101) (o := .cells #[.slice A0_0 l0_0.length c0_0,.slice A0_1 l0_1.length c0_1,.int .i64 a0_2,.int .i64 a0_3] 40 (0,0)) (by (with_reducible repeat (first | refine zz ?_ _ | refine zj ?_ | refine zq ?_ _));exact BK101.out) hb)
    have n7_ := qq.mk (kw (g := gb120) (o := .cells #[.slice Ao26 t112.length co26,.slice Ao29 t115.length co29,.int .i64 t118,.int .i64 t119] 45 (0,0)) (by (with_reducible repeat (first | refine zz ?_ _ | refine zj ?_ | refine zq ?_ _));exact BK120.out) hb)
    have n8_ := qq.mk (zv (by repeat (first | (with_reducible first | exact HB.out | apply qj | apply qz | apply qk | refine qx ?_ GE101.out | refine qx ?_ GE120.out) | exact HB.out)) hb)
    clear HO105
    clear HO108
    clear HO114
    clear HO117
    clear HO124
    clear HO127
    clear BK101
    clear BK120
    clear HB
    have HO105 := n0_
    have HO108 := n1_
    have HO114 := n2_
    have HO117 := n3_
    have HO124 := n4_
    have HO127 := n5_
    have BK101 := n6_
    have BK120 := n7_
    have HB := n8_
    clear n0_ n1_ n2_ n3_ n4_ n5_ n6_ n7_ n8_
    (try clear hb)
    (try clear hb2)
    (try clear hk)
    (try clear hi)
    refine hK.out _ _ ⟨(qw BK120.out 0).trans rfl,(qw BK120.out 1).trans rfl,(qw BK120.out 2).trans rfl,(qw BK120.out 3).trans rfl,(qw BK101.out 0).trans rfl,(qw BK101.out 1).trans rfl,(qw BK101.out 2).trans rfl,(qw BK101.out 3).trans rfl⟩ (fun hHeld => ?_)
    clear hK K
    refine norm_ (a' := ?_) ?_ ?_
    rotate_left
    ·show Act.put _ (some 25) _ = _
     simp only [Act.put,List.setIfInBounds_toArray,List.set_cons_zero,List.set_cons_succ,i64_w,i32_w]
     rfl
    refine pure_ (i := 4) (N := some 26) (v := ?_) (a' := ?_) #[true,true,true,true,true] rfl rfl (by kernel_rfl) (fun _ _ _ h => h) (Or.inl ⟨by rfl,?_⟩) ?_ ?_
    rotate_left
    ·intro w'
     go_simp
     with_reducible rfl
    rotate_left
    ·simp only [Act.put,List.setIfInBounds_toArray,List.set_cons_zero,List.set_cons_succ,i64_w,i32_w]
     rfl
    refine done_ (by kernel_rfl) ?_
    try go_wp2
    go_ret
    exact ⟨by first | rfl | (simp [*,jk,jj] <;> rfl),by repeat (first | (with_reducible first | exact HB.out | apply qj | apply qz | apply qk | refine qx ?_ GE101.out | refine qx ?_ GE120.out) | exact HB.out)⟩
   ·replace c14 := Bool.eq_false_iff.mpr c14
    subst c14
    have H1 : (none) = some r := by rw [if_neg (show ¬ (false = true) by decide)] at H;exact H
    clear H
    have H := H1
    clear H1
    exact absurd H (by simp)
open Go.RowKit Go.Proofs.Ytakocdkcfjkmdaa.Read Go.Proofs.YtakocdkcfjkmdaaW.PrintWords
def ok96 (x : S96) : Prop := okS x.f0 ∧ (okL okB) x.f1 ∧ (okL okS) x.f2 ∧ (okL okS) x.f3 ∧ (okL okI) x.f4
theorem tells96 : Tells Try.prog 96 k96 ok96 :=
 tells_iso (fun x : S96 => (x.f0,x.f1,x.f2,x.f3,x.f4)) (fun a => ⟨a.1,a.2.1,a.2.2.1,a.2.2.2.1,a.2.2.2.2⟩) (fun _ => rfl) (tells_struct Try.underlying96 (by kernel_rfl) (fs_cons rfl (tellsS Try.underlying9 (by kernel_rfl)) (fs_cons rfl (tellsL Try.underlying22 (by kernel_rfl) (tellsB Try.underlying5 (by kernel_rfl))) (fs_cons rfl (tellsL Try.underlying74 (by kernel_rfl) (tellsS Try.underlying9 (by kernel_rfl))) (fs_cons rfl (tellsL Try.underlying74 (by kernel_rfl) (tellsS Try.underlying9 (by kernel_rfl))) (fs_one rfl (tellsL Try.underlying75 (by kernel_rfl) (tellsI Try.underlying3 (by kernel_rfl)))))))))
def xj.Pure : Prop := ∀ (l0_0 : (List S96)) (l0_1 : (List Int)) (a0_2 : Int) (a0_3 : Int),(okL ok96) l0_0 → (okL okB) l0_1 → okI a0_2 → okI a0_3 → ∃ k,xj.f k l0_0 l0_1 a0_2 a0_3 = some true
theorem w64 {n : Int} (h0 : -9223372036854775808 ≤ n) (h1 : n ≤ 9223372036854775807) : wrap64 n = n := by unfold wrap64;omega
theorem rd_nat {l : List Int} {i : Nat} (h : i < l.length) : rd l (i : Int) = l[i] := by
 simp [rd,List.getD_eq_getElem?_getD,List.getElem?_eq_getElem h]
theorem szByteS_eq (l : List Int) (n : Int) : qqj.f l n = some (if wrap64 (n - l.length) < 0 then -1 else wrap64 (n - l.length)) := by
 unfold qqj.f;split <;> rfl
theorem toByteS_l0 (x0 : List Int) (hl : x0.length ≤ 281474976710656) (d : Nat) : ∀ (k i : Nat) (x3 : List Int),x0.length - i = d → i ≤ x0.length → x3.length = x0.length → d < k → qzz.l0 k x0 x3 i = some (x3.take i ++ x0.drop i) := by
 induction d with
 | zero =>
  intro k i x3 hd hi h3 hk
  obtain ⟨k,rfl⟩ : ∃ m,k = m + 1 := ⟨k - 1,by omega⟩
  simp only [qzz.l0]
  rw [if_neg (by omega),List.take_of_length_le (by omega),List.drop_of_length_le (by omega),List.append_nil]
 | succ d ih =>
  intro k i x3 hd hi h3 hk
  obtain ⟨k,rfl⟩ : ∃ m,k = m + 1 := ⟨k - 1,by omega⟩
  simp only [qzz.l0]
  rw [if_pos (by omega),if_pos (by omega),if_pos (by omega),w64 (by omega) (by omega)]
  have e := ih k (i + 1) (x3.set i (rd x0 i)) (by omega) (by omega) (by simpa using h3) (by omega)
  rw [Int.toNat_natCast]
  rw [show ((i : Int) + 1) = ((i + 1 : Nat) : Int) from rfl,e]
  congr 1
  have hlt : i < x0.length := by omega
  rw [List.take_succ_eq_append_getElem (by simp;omega),List.getElem_set_self,List.take_set_of_le (by omega),rd_nat hlt,List.append_assoc,List.singleton_append,← List.drop_eq_getElem_cons hlt]
theorem toByteS_ev (l : List Int) (hl : l.length ≤ 281474976710656) : Ev (fun k => qzz.f k l) l :=
 ⟨l.length + 1,fun k hk => by
  show qzz.f k l = some l
  unfold qzz.f
  rw [if_pos (by omega),if_pos (by omega)]
  have := toByteS_l0 l hl l.length k 0 (List.replicate ((l.length : Int)).toNat 0) (by omega) (by omega) (by simp) (by omega)
  simpa using this⟩
theorem eqByteS_l0 (x0 x1 : List Int) (hl : x0.length = x1.length) (hm : x0.length ≤ 281474976710656) (d : Nat) : ∀ (k i : Nat),x0.length - i = d → i ≤ x0.length → d < k → xk.l0 k x0 x1 i = some (decide (x0.drop i = x1.drop i)) := by
 induction d with
 | zero =>
  intro k i hd hi hk
  obtain ⟨k,rfl⟩ : ∃ m,k = m + 1 := ⟨k - 1,by omega⟩
  simp only [xk.l0]
  rw [if_neg (by omega),List.drop_of_length_le (by omega),List.drop_of_length_le (by omega)];simp
 | succ d ih =>
  intro k i hd hi hk
  obtain ⟨k,rfl⟩ : ∃ m,k = m + 1 := ⟨k - 1,by omega⟩
  simp only [xk.l0]
  have h0 : i < x0.length := by omega
  have h1 : i < x1.length := by omega
  rw [if_pos (by omega),if_pos (by omega),if_pos (by omega),w64 (by omega) (by omega),rd_nat h0,rd_nat h1,List.drop_eq_getElem_cons h0,List.drop_eq_getElem_cons h1]
  have e := ih k (i + 1) (by omega) (by omega) (by omega)
  rw [show ((i : Int) + 1) = ((i + 1 : Nat) : Int) from rfl,e]
  by_cases hx : x0[i] = x1[i]
  ·rw [if_pos hx];congr 1;rw [decide_eq_decide,hx,List.cons.injEq];exact ⟨fun h => ⟨rfl,h⟩,fun h => h.2⟩
  ·rw [if_neg hx];congr 1;symm;rw [decide_eq_false_iff_not,List.cons.injEq];exact fun h => hx h.1
theorem eqByteS_ev (a b : List Int) (hl : a.length ≤ 281474976710656) : Ev (fun k => xk.f k a b) (decide (a = b)) :=
 ⟨a.length + 1,fun k hk => by
  show xk.f k a b = _
  unfold xk.f
  by_cases h : a.length = b.length
  ·rw [if_pos (by omega)]
   have := eqByteS_l0 a b h hl a.length k 0 (by omega) (by omega) (by omega)
   simpa using this
  ·rw [if_neg (by omega)]
   have : a ≠ b := fun e => h (by rw [e])
   simp [this]⟩
theorem eqByteS_refl (a : List Int) (hl : a.length ≤ 281474976710656) : Ev (fun k => xk.f k a a) true := by
 have := eqByteS_ev a a hl
 simpa using this
theorem Ev.upW {α : Type} {g : Nat → Option α} {r : α} (h : Ev (fun k => g (k + 1)) r) : Ev g r := by
 obtain ⟨n,h⟩ := h
 refine ⟨n + 1,fun k hk => ?_⟩
 obtain ⟨k,rfl⟩ : ∃ m,k = m + 1 := ⟨k - 1,by omega⟩
 exact h k (by omega)
theorem wrap_succ {i n : Nat} (h : i < n) (hn : n ≤ 281474976710656) : wrap64 ((i : Int) + 1) = ((i + 1 : Nat) : Int) := by rw [w64 (by omega) (by omega)];rfl
theorem rows_sz {α : Type} (l : List α) (ok small : α → Prop) (F : Nat → Int → Int → Option Int) (g : Nat → α → Int → Option Int) (hlen : l.length ≤ 1048576)
  (hstop : ∀ k x,F (k + 1) x (l.length : Int) = some x)
  (hstep : ∀ (k : Nat) (i : Nat) (h : i < l.length) (x : Int),F (k + 1) x (i : Int) = (g k l[i] x).bind fun t => if t < 0 then some (-1) else F k t ((i + 1 : Nat) : Int))
  (hok : ∀ e ∈ l,ok e) (hg : ∀ e,ok e → ∀ left : Int,0 ≤ left → left ≤ 1048576 → ∃ r : Int,Ev (fun k => g k e left) r ∧ r ≤ 1048576 ∧ (¬ r < 0 → small e)) (d : Nat) :
  ∀ (i : Nat) (left : Int),i + d = l.length → 0 ≤ left → left ≤ 1048576 → ∃ r : Int,Ev (fun k => F k left (i : Int)) r ∧ r ≤ 1048576 ∧ (¬ r < 0 → ∀ j (h : j < l.length),i ≤ j → small l[j]) := by
 induction d with
 | zero =>
  intro i left hi h0 h1
  obtain rfl : i = l.length := by omega
  refine ⟨left,Ev.upW ?_,h1,fun _ j hj hij => by omega⟩
  simp only [hstop]
  exact Ev.now _
 | succ d ih =>
  intro i left hi h0 h1
  have hlt : i < l.length := by omega
  obtain ⟨r1,e1,hr1,hs1⟩ := hg l[i] (hok _ (List.getElem_mem hlt)) left h0 h1
  by_cases hneg : r1 < 0
  ·refine ⟨-1,Ev.upW ?_,by omega,fun h => by omega⟩
   simp only [hstep _ i hlt]
   refine Ev.bind e1 ?_
   simp only [if_pos hneg]
   exact Ev.now _
  ·obtain ⟨r,er,hr1',hr⟩ := ih (i + 1) r1 (by omega) (by omega) hr1
   refine ⟨r,Ev.upW ?_,hr1',fun hn j hj hij => ?_⟩
   ·simp only [hstep _ i hlt]
    refine Ev.bind e1 ?_
    simp only [if_neg hneg]
    exact er
   ·by_cases hji : j = i
    ·subst hji;exact hs1 hneg
    ·exact hr hn j hj (by omega)
theorem rows_szf {α : Type} (l : List α) (ok small : α → Prop) (G : Nat → Int → Option Int) (F : Nat → Int → Int → Option Int) (g : Nat → α → Int → Option Int) (left : Int) (h0 : 0 ≤ left) (h1 : left ≤ 1048576) (hmax : l.length ≤ 9223372036854775807)
  (hG : ∀ k,G k left = if wrap64 (left - (l.length : Int)) < 0 then some (-1) else F k (wrap64 (left - (l.length : Int))) 0)
  (hstop : ∀ k x,F (k + 1) x (l.length : Int) = some x)
  (hstep : l.length ≤ 1048576 → ∀ (k : Nat) (i : Nat) (h : i < l.length) (x : Int),F (k + 1) x (i : Int) = (g k l[i] x).bind fun t => if t < 0 then some (-1) else F k t ((i + 1 : Nat) : Int))
  (hok : ∀ e ∈ l,ok e) (hg : ∀ e,ok e → ∀ left : Int,0 ≤ left → left ≤ 1048576 → ∃ r : Int,Ev (fun k => g k e left) r ∧ r ≤ 1048576 ∧ (¬ r < 0 → small e)) :
  ∃ r : Int,Ev (fun k => G k left) r ∧ r ≤ 1048576 ∧ (¬ r < 0 → l.length ≤ 1048576 ∧ ∀ e ∈ l,small e) := by
 have ew : wrap64 (left - (l.length : Int)) = left - (l.length : Int) := w64 (by omega) (by omega)
 by_cases h : (l.length : Int) ≤ left
 ·obtain ⟨r,er,hr1,hr⟩ := rows_sz l ok small F g (by omega) hstop (hstep (by omega)) hok hg l.length 0 (left - (l.length : Int)) (by omega) (by omega) (by omega)
  refine ⟨r,?_,hr1,fun hn => ⟨by omega,fun e he => ?_⟩⟩
  ·simp only [hG,ew,if_neg (show ¬ left - (l.length : Int) < 0 by omega)]
   exact er
  ·obtain ⟨j,hj,rfl⟩ := List.getElem_of_mem he
   exact hr hn j hj (by omega)
 ·refine ⟨-1,?_,by omega,fun hn => by omega⟩
  simp only [hG,ew,if_pos (show left - (l.length : Int) < 0 by omega)]
  exact Ev.now _
theorem set_midW {α : Type} (A : List α) (z v : α) (m i : Nat) (h : A.length = i) : (A ++ List.replicate (m + 1) z).set i v = (A ++ [v]) ++ List.replicate m z := by
 subst h
 rw [List.set_append_right _ _ (Nat.le_refl _),Nat.sub_self,List.replicate_succ,List.set_cons_zero,List.append_assoc]
 rfl
theorem rows_to {α β γ : Type} (l : List α) (z : β) (F : Nat → List β → Int → Option (List β)) (g : Nat → α → Option γ) (mk : γ → β) (cp : α → β) (hlen : l.length ≤ 1048576)
  (hstop : ∀ k x,F (k + 1) x (l.length : Int) = some x)
  (hstep : ∀ (k : Nat) (i : Nat) (h : i < l.length) (x : List β),x.length = l.length → F (k + 1) x (i : Int) = (g k l[i]).bind fun t => F k (x.set i (mk t)) ((i + 1 : Nat) : Int))
  (hg : ∀ e ∈ l,∃ t,Ev (fun k => g k e) t ∧ mk t = cp e) (d : Nat) :
  ∀ i,i + d = l.length → Ev (fun k => F k ((l.take i).map cp ++ List.replicate d z) (i : Int)) (l.map cp) := by
 induction d with
 | zero =>
  intro i hi
  obtain rfl : i = l.length := by omega
  refine Ev.upW ?_
  simp only [hstop]
  rw [List.take_length,List.replicate_zero,List.append_nil]
  exact Ev.now _
 | succ d ih =>
  intro i hi
  have hlt : i < l.length := by omega
  obtain ⟨t,et,ht⟩ := hg _ (List.getElem_mem hlt)
  have hlA : ((l.take i).map cp).length = i := by rw [List.length_map,List.length_take];omega
  have hl3 : ((l.take i).map cp ++ List.replicate (d + 1) z).length = l.length := by rw [List.length_append,hlA,List.length_replicate];omega
  refine Ev.upW ?_
  simp only [hstep _ i hlt _ hl3]
  refine Ev.bind et ?_
  rw [ht,set_midW _ _ _ _ _ hlA]
  have hn := ih (i + 1) (by omega)
  rw [List.take_succ_eq_append_getElem hlt,List.map_append,List.map_singleton] at hn
  exact hn
theorem rows_eq {α : Type} (l : List α) (F : Nat → Int → Option Bool) (g : Nat → α → Option Bool) (hlen : l.length ≤ 1048576)
  (hstop : ∀ k,F (k + 1) (l.length : Int) = some true)
  (hstep : ∀ (k : Nat) (i : Nat) (h : i < l.length),F (k + 1) (i : Int) = (g k l[i]).bind fun t => if t = true then F k ((i + 1 : Nat) : Int) else some false)
  (hg : ∀ e ∈ l,Ev (fun k => g k e) true) (d : Nat) : ∀ i,i + d = l.length → Ev (fun k => F k (i : Int)) true := by
 induction d with
 | zero =>
  intro i hi
  obtain rfl : i = l.length := by omega
  refine Ev.upW ?_
  simp only [hstop]
  exact Ev.now _
 | succ d ih =>
  intro i hi
  have hlt : i < l.length := by omega
  refine Ev.upW ?_
  simp only [hstep _ i hlt]
  refine Ev.bind (hg _ (List.getElem_mem hlt)) ?_
  simp only [if_true]
  exact ih (i + 1) (by omega)
theorem rdStr_nat {l : List ByteArray} {i : Nat} (h : i < l.length) : rdOf ByteArray.empty l (i : Int) = l[i] := by simp [rdOf,List.getD_eq_getElem?_getD,List.getElem?_eq_getElem h]
theorem szStringS_ev (l : List ByteArray) (hok : ∀ e ∈ l,okS e) (hmax : l.length ≤ 9223372036854775807) (left : Int) (h0 : 0 ≤ left) (h1 : left ≤ 1048576) : ∃ r : Int,Ev (fun k => qzq.f k l left) r ∧ r ≤ 1048576 ∧ (¬ r < 0 → l.length ≤ 1048576 ∧ ∀ e ∈ l,e.size ≤ 1048576) :=
 rows_szf l okS (fun e => e.size ≤ 1048576) (fun k x => qzq.f k l x) (fun k x i => qzq.l0 k l x i) (fun _ e x => if wrap64 (x - (e.size : Int)) < 0 then some (-1) else some (wrap64 (x - (e.size : Int)))) left h0 h1 hmax (fun _ => rfl)
  (fun k x => by simp only [qzq.l0,if_neg (Int.lt_irrefl _)])
  (fun hl k i h x => by
   simp only [qzq.l0,if_pos (show (i : Int) < (l.length : Int) by omega),if_pos (Int.natCast_nonneg i),rdStr_nat h,wrap_succ h (by omega)]
   by_cases hc : wrap64 (x - (l[i].size : Int)) < 0
   ·simp only [if_pos hc,Option.bind_some,if_pos (show (-1 : Int) < 0 by decide)]
   ·simp only [if_neg hc,Option.bind_some])
  hok (fun e he x hx0 hx1 => by
   unfold okS at he
   have ew : wrap64 (x - (e.size : Int)) = x - (e.size : Int) := w64 (by omega) (by omega)
   by_cases hc : x - (e.size : Int) < 0
   ·exact ⟨-1,by simp only [ew,if_pos hc];exact Ev.now _,by omega,fun h => by omega⟩
   ·exact ⟨x - (e.size : Int),by simp only [ew,if_neg hc];exact Ev.now _,by omega,fun h => by omega⟩)
theorem toStringS_ev (l : List ByteArray) (hlen : l.length ≤ 1048576) : Ev (fun k => qzx.f k l) l := by
 simp only [qzx.f,if_pos (Int.natCast_nonneg l.length),Int.toNat_natCast,if_pos (show l.length ≤ 17592186044416 by omega)]
 have := rows_to l (⟨#[]⟩ : ByteArray) (fun k x i => qzx.l0 k l x i) (fun _ e => some e) id id hlen
  (fun k x => by simp only [qzx.l0,if_neg (Int.lt_irrefl _)])
  (fun k i h x hx => by simp only [qzx.l0,if_pos (show (i : Int) < (l.length : Int) by omega),if_pos (Int.natCast_nonneg i),rdStr_nat h,wrap_succ h (by omega),if_pos (show (i : Int) < (x.length : Int) by omega),Int.toNat_natCast,Option.bind_some,id])
  (fun e _ => ⟨e,Ev.now _,rfl⟩) l.length 0 (by omega)
 rw [List.take_zero,List.map_nil,List.nil_append,List.map_id] at this
 exact this
theorem eqStringS_refl (l : List ByteArray) (hlen : l.length ≤ 1048576) : Ev (fun k => qqz.f k l l) true := by
 simp only [qqz.f,if_true]
 exact rows_eq l (fun k i => qqz.l0 k l l i) (fun _ e => some true) hlen
  (fun k => by simp only [qqz.l0,if_neg (Int.lt_irrefl _)])
  (fun k i h => by simp only [qqz.l0,if_pos (show (i : Int) < (l.length : Int) by omega),if_pos (Int.natCast_nonneg i),rdStr_nat h,wrap_succ h (by omega),if_true,Option.bind_some])
  (fun e _ => Ev.now _) l.length 0 (by omega)
theorem szIntS_eq (l : List Int) (left : Int) (h0 : 0 ≤ left) (h1 : left ≤ 1048576) (hmax : l.length ≤ 9223372036854775807) : ∃ r : Int,qqw.f l left = some r ∧ r ≤ 1048576 ∧ (¬ r < 0 → l.length ≤ 1048576) := by
 have ew : wrap64 (left - (l.length : Int)) = left - (l.length : Int) := w64 (by omega) (by omega)
 unfold qqw.f
 rw [ew]
 by_cases hc : left - (l.length : Int) < 0
 ·exact ⟨-1,if_pos hc,by omega,fun h => by omega⟩
 ·exact ⟨_,if_neg hc,by omega,fun h => by omega⟩
theorem toIntS_ev (l : List Int) (hlen : l.length ≤ 1048576) : Ev (fun k => qzv.f k l) l := by
 simp only [qzv.f,if_pos (Int.natCast_nonneg l.length),Int.toNat_natCast,if_pos (show l.length ≤ 35184372088832 by omega)]
 have := rows_to l (0 : Int) (fun k x i => qzv.l0 k l x i) (fun _ e => some e) id id hlen
  (fun k x => by simp only [qzv.l0,if_neg (Int.lt_irrefl _)])
  (fun k i h x hx => by simp only [qzv.l0,if_pos (show (i : Int) < (l.length : Int) by omega),if_pos (Int.natCast_nonneg i),rd_nat h,wrap_succ h (by omega),if_pos (show (i : Int) < (x.length : Int) by omega),Int.toNat_natCast,Option.bind_some,id])
  (fun e _ => ⟨e,Ev.now _,rfl⟩) l.length 0 (by omega)
 rw [List.take_zero,List.map_nil,List.nil_append,List.map_id] at this
 exact this
theorem eqIntS_refl (l : List Int) (hlen : l.length ≤ 1048576) : Ev (fun k => xx.f k l l) true := by
 simp only [xx.f,if_true]
 exact rows_eq l (fun k i => xx.l0 k l l i) (fun _ e => some true) hlen
  (fun k => by simp only [xx.l0,if_neg (Int.lt_irrefl _)])
  (fun k i h => by simp only [xx.l0,if_pos (show (i : Int) < (l.length : Int) by omega),if_pos (Int.natCast_nonneg i),rd_nat h,wrap_succ h (by omega),if_true,Option.bind_some])
  (fun e _ => Ev.now _) l.length 0 (by omega)
def cmpB : List UInt8 → List UInt8 → Int
 | [],[] => 0
 | [],_ :: _ => -1
 | _ :: _,[] => 1
 | a :: x,b :: y => if a.toNat = b.toNat then cmpB x y else if a.toNat < b.toNat then -1 else 1
theorem cmpB_less : ∀ x y : List UInt8,Op.bytesLess x y = decide (cmpB x y < 0)
 | [],[] => by unfold Op.bytesLess cmpB;rfl
 | [],_ :: _ => by unfold Op.bytesLess cmpB;rfl
 | _ :: _,[] => by unfold Op.bytesLess cmpB;rfl
 | a :: x,b :: y => by
  unfold Op.bytesLess cmpB
  by_cases h : a.toNat = b.toNat
  ·obtain rfl : a = b := UInt8.toNat_inj.1 h
   rw [if_pos rfl,cmpB_less x y]
   have h2 : decide (a < a) = false := decide_eq_false (by rw [UInt8.lt_iff_toNat_lt];omega)
   rw [h2]
   simp
  ·have hne : (a == b) = false := by rw [beq_eq_false_iff_ne];intro e;exact h (by rw [e])
   rw [if_neg h,hne,Bool.false_and,Bool.or_false]
   by_cases h3 : a.toNat < b.toNat
   ·rw [if_pos h3,decide_eq_true (UInt8.lt_iff_toNat_lt.2 h3)];rfl
   ·rw [if_neg h3,decide_eq_false (fun e => h3 (UInt8.lt_iff_toNat_lt.1 e))];rfl
theorem bt_list (s : ByteArray) (i : Nat) (h : i < s.size) : ∃ hl : i < s.toList.length,bt s (i : Int) = (s.toList[i].toNat : Int) := by
 have hl : i < s.toList.length := by rw [ByteArray.toList_eq,data_length];exact h
 refine ⟨hl,?_⟩
 unfold bt
 simp only [Int.toNat_natCast,dif_pos h]
 simp only [ByteArray.toList_eq]
 rfl
theorem toList_len (s : ByteArray) : s.toList.length = s.size := by rw [ByteArray.toList_eq,data_length]
theorem cmpT_l0 (a b : ByteArray) (ha : a.size ≤ 4611686018427387904) (hb : b.size ≤ 4611686018427387904) (d : Nat) : ∀ (k i : Nat),i + d = a.size → i ≤ b.size → 2 * d + 2 ≤ k → qjv.l0 k a b (i : Int) = some (cmpB (a.toList.drop i) (b.toList.drop i)) := by
 induction d with
 | zero =>
  intro k i hi hib hk
  obtain ⟨k,rfl⟩ : ∃ m,k = m + 2 := ⟨k - 2,by omega⟩
  have e1 : a.toList.drop i = [] := List.drop_of_length_le (by rw [toList_len];omega)
  simp only [qjv.l0]
  rw [if_neg (by omega)]
  simp only [qjv.j1,qjk.f,if_neg (show ¬ (false = true) by decide)]
  rw [e1]
  by_cases hlt : i < b.size
  ·rw [if_pos (by omega),List.drop_eq_getElem_cons (by rw [toList_len];exact hlt)]
   rfl
  ·rw [if_neg (by omega),if_neg (by omega),show b.toList.drop i = [] from List.drop_of_length_le (by rw [toList_len];omega)]
   rfl
 | succ d ih =>
  intro k i hi hib hk
  obtain ⟨k,rfl⟩ : ∃ m,k = m + 2 := ⟨k - 2,by omega⟩
  obtain ⟨hl,eb⟩ := bt_list a i (by omega)
  simp only [qjv.l0]
  rw [if_pos (by omega),List.drop_eq_getElem_cons hl]
  by_cases hlt : i < b.size
  ·obtain ⟨hl2,eb2⟩ := bt_list b i hlt
   rw [List.drop_eq_getElem_cons hl2]
   simp only [qjv.j1,decide_eq_true (show (i : Int) < (b.size : Int) by omega),if_true]
   rw [if_pos (by omega),if_pos (by omega),if_pos (by omega),eb,eb2]
   unfold cmpB
   have h1 : a.toList[i].toNat < 256 := UInt8.toNat_lt _
   have h2 : b.toList[i].toNat < 256 := UInt8.toNat_lt _
   by_cases he : a.toList[i].toNat = b.toList[i].toNat
   ·rw [if_pos (by omega),if_pos he,show wrap64 ((i : Int) + 1) = ((i + 1 : Nat) : Int) from by rw [w64 (by omega) (by omega)];rfl]
    exact ih k (i + 1) (by omega) (by omega) (by omega)
   ·rw [if_neg (by omega),if_neg he,w64 (by omega) (by omega),w64 (by omega) (by omega)]
    unfold qjk.f
    by_cases h3 : a.toList[i].toNat < b.toList[i].toNat
    ·rw [if_pos (by omega),if_pos h3];rfl
    ·rw [if_neg (by omega),if_neg h3,if_pos (by omega)];rfl
  ·have e2 : b.toList.drop i = [] := List.drop_of_length_le (by rw [toList_len];omega)
   rw [e2]
   simp only [qjv.j1,decide_eq_false (show ¬ (i : Int) < (b.size : Int) by omega),if_neg (show ¬ (false = true) by decide)]
   unfold qjk.f cmpB
   rw [if_neg (by omega),if_pos (by omega)]
   rfl
def cmpT (a b : ByteArray) : Int := cmpB a.toList b.toList
theorem cmpT_ev (a b : ByteArray) (ha : a.size ≤ 4611686018427387904) (hb : b.size ≤ 4611686018427387904) : Ev (fun k => qjv.f k a b) (cmpT a b) := by
 refine ⟨2 * a.size + 2,fun k hk => ?_⟩
 have := cmpT_l0 a b ha hb a.size k 0 (by omega) (by omega) hk
 simpa [qjv.f,cmpT] using this
theorem cmpT_less (a b : ByteArray) : Op.bytesLess a.toList b.toList = decide (cmpT a b < 0) := cmpB_less _ _
def nletC (c : Int) : Bool := decide (97 ≤ c ∧ c ≤ 122 ∨ 65 ≤ c ∧ c ≤ 90)
def ndigC (c : Int) : Bool := decide (48 ≤ c ∧ c ≤ 57)
theorem nsletter_eq (c : Int) : qjx.f c = some (nletC c) := by
 unfold qjx.f nletC
 split
 ·split
  ·congr 1;symm;rw [decide_eq_true_eq];omega
  ·split
   ·congr 1;rw [decide_eq_decide];omega
   ·congr 1;symm;rw [decide_eq_false_iff_not];omega
 ·split
  ·congr 1;rw [decide_eq_decide];omega
  ·congr 1;symm;rw [decide_eq_false_iff_not];omega
theorem nsdigit_eq (c : Int) : qjw.f c = some (ndigC c) := by
 unfold qjw.f ndigC
 split
 ·congr 1;rw [decide_eq_decide];omega
 ·congr 1;symm;rw [decide_eq_false_iff_not];omega
theorem niletter_eq (c : Int) : ww.f c = some (nletC c) := by
 unfold ww.f nletC
 split
 ·split
  ·congr 1;symm;rw [decide_eq_true_eq];omega
  ·split
   ·congr 1;rw [decide_eq_decide];omega
   ·congr 1;symm;rw [decide_eq_false_iff_not];omega
 ·split
  ·congr 1;rw [decide_eq_decide];omega
  ·congr 1;symm;rw [decide_eq_false_iff_not];omega
theorem nidigit_eq (c : Int) : wj.f c = some (ndigC c) := by
 unfold wj.f ndigC
 split
 ·congr 1;rw [decide_eq_decide];omega
 ·congr 1;symm;rw [decide_eq_false_iff_not];omega
def nameC (c : Int) : Bool := if nletC c = true then true else if ndigC c = true then true else if c = 95 then true else false
def nameN (s : ByteArray) : Nat → Bool
 | 0 => true
 | d + 1 => if nameC (bt s ((s.size - (d + 1) : Nat) : Int)) = true then nameN s d else false
theorem sName_l0 (s : ByteArray) (hs : s.size ≤ 9223372036854775807) (d : Nat) : ∀ (k i : Nat),s.size - i = d → i ≤ s.size → d < k → qjq.l0 k s i = some (nameN s d) := by
 induction d with
 | zero =>
  intro k i hd hi hk
  obtain ⟨k,rfl⟩ : ∃ m,k = m + 1 := ⟨k - 1,by omega⟩
  simp only [qjq.l0]
  rw [if_neg (by omega)]
  rfl
 | succ d ih =>
  intro k i hd hi hk
  obtain ⟨k,rfl⟩ : ∃ m,k = m + 1 := ⟨k - 1,by omega⟩
  have e0 : s.size - (d + 1) = i := by omega
  simp only [qjq.l0,nameN,e0,nsletter_eq,nsdigit_eq,Option.bind_some]
  rw [if_pos (by omega),if_pos (by omega),w64 (by omega) (by omega),show ((i : Int) + 1) = ((i + 1 : Nat) : Int) from rfl,ih k (i + 1) (by omega) (by omega) (by omega)]
  unfold nameC
  split
  ·simp only [if_true]
  ·split
   ·simp only [if_true]
   ·split <;> simp only [if_true,Bool.false_eq_true,if_false]
theorem iName_l0 (s : ByteArray) (hs : s.size ≤ 9223372036854775807) (d : Nat) : ∀ (k i : Nat),s.size - i = d → i ≤ s.size → d < k → vk.l0 k s (s.size : Int) i = some (nameN s d) := by
 induction d with
 | zero =>
  intro k i hd hi hk
  obtain ⟨k,rfl⟩ : ∃ m,k = m + 1 := ⟨k - 1,by omega⟩
  simp only [vk.l0]
  rw [if_neg (by omega)]
  rfl
 | succ d ih =>
  intro k i hd hi hk
  obtain ⟨k,rfl⟩ : ∃ m,k = m + 1 := ⟨k - 1,by omega⟩
  have e0 : s.size - (d + 1) = i := by omega
  simp only [vk.l0,nameN,e0,xz.f,niletter_eq,nidigit_eq,Option.bind_some]
  rw [if_pos (by omega),if_pos (by omega),if_pos (by omega),w64 (by omega) (by omega),show ((i : Int) + 1) = ((i + 1 : Nat) : Int) from rfl,ih k (i + 1) (by omega) (by omega) (by omega)]
  unfold nameC
  by_cases h1 : nletC (bt s (i : Int)) = true
  ·simp only [h1,if_true,Option.bind_some]
  ·simp only [h1,Bool.false_eq_true,if_false]
   by_cases h2 : ndigC (bt s (i : Int)) = true
   ·simp only [h2,if_true,Option.bind_some]
   ·simp only [h2,Bool.false_eq_true,if_false,Option.bind_some,beq_iff_eq]
    by_cases h3 : bt s (i : Int) = 95
    ·simp only [h3,if_true]
    ·simp only [h3,if_false,Bool.false_eq_true]
def goodName (s : ByteArray) : Bool := if 1 ≤ s.size ∧ s.size ≤ 30 then (if ndigC (bt s 0) = true then false else nameN s s.size) else false
theorem list_nil_size {s : ByteArray} : s.toList = ([] : List UInt8) ↔ s.size = 0 := by
 rw [ByteArray.toList_eq]
 constructor
 ·intro h
  have := congrArg List.length h
  rwa [data_length] at this
 ·intro h
  exact List.eq_nil_of_length_eq_zero (by rw [data_length];exact h)
theorem specName_ev (s : ByteArray) (hs : s.size ≤ 9223372036854775807) : Ev (fun k => qjq.f k s) (goodName s) := by
 refine ⟨s.size + 3,fun k hk => ?_⟩
 obtain ⟨k,rfl⟩ : ∃ m,k = m + 1 := ⟨k - 1,by omega⟩
 show qjq.f (k + 1) s = _
 simp only [qjq.f,qjq.j0,if_true,goodName]
 by_cases h1 : (s.size : Int) < 1
 ·rw [if_pos h1,if_neg (show ¬ (1 ≤ s.size ∧ s.size ≤ 30) by omega)]
 by_cases h2 : (s.size : Int) > 30
 ·rw [if_neg h1,if_pos h2,if_neg (show ¬ (1 ≤ s.size ∧ s.size ≤ 30) by omega)]
 rw [if_neg h1,if_neg h2,if_pos (show 1 ≤ s.size ∧ s.size ≤ 30 by omega),if_pos (by omega),nsdigit_eq,Option.bind_some]
 by_cases h3 : ndigC (bt s 0) = true
 ·rw [if_pos h3,if_pos h3]
 ·rw [if_neg h3,if_neg h3]
  exact sName_l0 s hs s.size k 0 (by omega) (by omega) (by omega)
theorem implName_ev (s : ByteArray) (hs : s.size ≤ 9223372036854775807) : Ev (fun k => vk.f k s) (goodName s) := by
 refine ⟨s.size + 3,fun k hk => ?_⟩
 obtain ⟨k,rfl⟩ : ∃ m,k = m + 1 := ⟨k - 1,by omega⟩
 show vk.f (k + 1) s = _
 simp only [vk.f,vk.j0,if_true,goodName]
 by_cases h1 : s.size = 0
 ·rw [if_pos (list_nil_size.2 h1),if_neg (show ¬ (1 ≤ s.size ∧ s.size ≤ 30) by omega)]
 by_cases h2 : (s.size : Int) > 30
 ·rw [if_neg (fun e => h1 (list_nil_size.1 e)),if_pos h2,if_neg (show ¬ (1 ≤ s.size ∧ s.size ≤ 30) by omega)]
 rw [if_neg (fun e => h1 (list_nil_size.1 e)),if_neg h2,if_pos (show 1 ≤ s.size ∧ s.size ≤ 30 by omega),if_pos (by omega),nidigit_eq,Option.bind_some]
 by_cases h3 : ndigC (bt s 0) = true
 ·rw [if_pos h3,if_pos h3]
 ·rw [if_neg h3,if_neg h3]
  exact iName_l0 s hs s.size k 0 (by omega) (by omega) (by omega)
def okTexts (l : List ByteArray) : Prop := l.length ≤ 1048576 ∧ ∀ e ∈ l,e.size ≤ 1048576
theorem anyO_ev {α : Type} (p : Nat → α → Option Bool) (q : α → Bool) : ∀ l : List α,(∀ x ∈ l,Ev (fun k => p k x) (q x)) → Ev (fun k => anyO (p k) l) (l.any q)
 | [],_ => Ev.now _
 | x :: xs,h => by
  simp only [anyO,List.any_cons]
  refine Ev.bind (h x List.mem_cons_self) ?_
  by_cases hq : q x = true
  ·simp only [hq,if_true,Bool.true_or];exact Ev.now _
  ·simp only [if_neg hq,Bool.eq_false_iff.2 hq,Bool.false_or]
   exact anyO_ev p q xs (fun y hy => h y (List.mem_cons_of_mem _ hy))
def aheadS (l : List ByteArray) (i : Nat) : Prop := 0 < i ∧ ¬ cmpT (rdOf ByteArray.empty l ((i - 1 : Nat) : Int)) (rdOf ByteArray.empty l (i : Int)) < 0
instance (l : List ByteArray) (i : Nat) : Decidable (aheadS l i) := by unfold aheadS;exact inferInstance
def risN (l : List ByteArray) : Nat → Bool
 | 0 => true
 | d + 1 => if aheadS l (l.length - (d + 1)) then false else risN l d
theorem rd_sizes {l : List ByteArray} (ho : okTexts l) {i : Nat} (hi : i < l.length) : (rdOf ByteArray.empty l (i : Int)).size ≤ 1048576 := by rw [rdStr_nat hi];exact ho.2 _ (List.getElem_mem hi)
theorem yrising_l0 (l : List ByteArray) (ho : okTexts l) (d : Nat) : ∀ i : Nat,i + d = l.length → Ev (fun k => xq.l0 k l l (l.length : Int) (i : Int)) (risN l d) := by
 have hl := ho.1
 induction d with
 | zero =>
  intro i hi
  refine Ev.upW ?_
  simp only [xq.l0,if_neg (show ¬ (i : Int) < (l.length : Int) by omega)]
  exact Ev.now _
 | succ d ih =>
  intro i hi
  have hlt : i < l.length := by omega
  have hrest := ih (i + 1) (by omega)
  rw [← wrap_succ hlt (by omega)] at hrest
  refine Ev.upW ?_
  simp only [xq.l0,risN,show l.length - (d + 1) = i by omega,if_pos (show (i : Int) < (l.length : Int) by omega),if_pos (Int.natCast_nonneg i)]
  by_cases h0 : 0 < i
  ·have e3 : wrap64 ((i : Int) - 1) = ((i - 1 : Nat) : Int) := by rw [w64 (by omega) (by omega)];omega
   simp only [if_pos (show (i : Int) > 0 by omega),e3,if_pos (Int.natCast_nonneg (i - 1)),if_pos (show ((i - 1 : Nat) : Int) < (l.length : Int) by omega),cmpT_less]
   by_cases hc : cmpT (rdOf ByteArray.empty l ((i - 1 : Nat) : Int)) (rdOf ByteArray.empty l (i : Int)) < 0
   ·simp only [decide_eq_true hc,if_true,if_neg (show ¬ aheadS l i from fun h => h.2 hc)]
    exact hrest
   ·simp only [decide_eq_false hc,if_neg (show ¬ (false = true) by decide),if_pos (show aheadS l i from ⟨h0,hc⟩)]
    exact Ev.now _
  ·simp only [if_neg (show ¬ (i : Int) > 0 by omega),if_neg (show ¬ aheadS l i from fun h => h0 h.1)]
   exact hrest
theorem l3Rising_l0 (l : List ByteArray) (ho : okTexts l) (d : Nat) : ∀ i : Nat,1 ≤ i → i + d = l.length → Ev (fun k => qkz.l0 k l (i : Int)) (risN l d) := by
 have hl := ho.1
 induction d with
 | zero =>
  intro i h1 hi
  refine Ev.upW ?_
  simp only [qkz.l0,if_neg (show ¬ (i : Int) < (l.length : Int) by omega)]
  exact Ev.now _
 | succ d ih =>
  intro i h1 hi
  have hlt : i < l.length := by omega
  have hrest := ih (i + 1) (by omega) (by omega)
  rw [← wrap_succ hlt (by omega)] at hrest
  have e3 : wrap64 ((i : Int) - 1) = ((i - 1 : Nat) : Int) := by rw [w64 (by omega) (by omega)];omega
  have hs1 := rd_sizes ho hlt
  have hs2 := rd_sizes ho (show i - 1 < l.length by omega)
  refine Ev.upW ?_
  simp only [qkz.l0,risN,show l.length - (d + 1) = i by omega,if_pos (show (i : Int) < (l.length : Int) by omega),if_pos (Int.natCast_nonneg i),e3,if_pos (Int.natCast_nonneg (i - 1)),if_pos (show ((i - 1 : Nat) : Int) < (l.length : Int) by omega)]
  refine Ev.bind (cmpT_ev _ _ (by omega) (by omega)) ?_
  by_cases hc : cmpT (rdOf ByteArray.empty l ((i - 1 : Nat) : Int)) (rdOf ByteArray.empty l (i : Int)) < 0
  ·simp only [if_neg (show ¬ cmpT (rdOf ByteArray.empty l ((i - 1 : Nat) : Int)) (rdOf ByteArray.empty l (i : Int)) ≥ 0 by omega),if_neg (show ¬ aheadS l i from fun h => h.2 hc)]
   exact hrest
  ·simp only [if_pos (show cmpT (rdOf ByteArray.empty l ((i - 1 : Nat) : Int)) (rdOf ByteArray.empty l (i : Int)) ≥ 0 by omega),if_pos (show aheadS l i from ⟨by omega,hc⟩)]
   exact Ev.now _
def risingL (l : List ByteArray) : Bool := risN l l.length
theorem yrising_ev (l : List ByteArray) (ho : okTexts l) : Ev (fun k => xq.f k l) (risingL l) := yrising_l0 l ho l.length 0 (by omega)
theorem l3Rising_ev (l : List ByteArray) (ho : okTexts l) : Ev (fun k => qkz.f k l) (risingL l) := by
 unfold risingL
 simp only [qkz.f]
 by_cases h : l.length = 0
 ·rw [h]
  refine Ev.upW ?_
  simp only [qkz.l0,if_neg (show ¬ (1 : Int) < (l.length : Int) by omega)]
  exact Ev.now _
 ·have := l3Rising_l0 l ho (l.length - 1) 1 (by omega) (by omega)
  obtain ⟨m,hm⟩ : ∃ m,l.length = m + 1 := ⟨l.length - 1,by omega⟩
  rw [hm] at this ⊢
  simp only [risN,hm,Nat.sub_self]
  rw [if_neg (show ¬ aheadS l 0 from fun h => absurd h.1 (Nat.lt_irrefl 0))]
  exact this
def scopesL (l : List ByteArray) : Bool := if l.all goodName = true then (if l.length ≤ 20 then risingL l else false) else false
theorem notall {α : Type} (p : α → Bool) : ∀ l : List α,(!l.any fun x => !p x) = l.all p
 | [] => rfl
 | x :: xs => by rw [List.any_cons,List.all_cons,← notall p xs];cases p x <;> simp
theorem yallNames_ev (l : List ByteArray) (ho : okTexts l) : Ev (fun k => wq.f k l) (l.all goodName) := by
 simp only [wq.f]
 have h : Ev (fun k => has_impl_yallNames_1.f k l) (l.any fun x => !goodName x) := anyO_ev (fun k x => wz.f k x) _ l (fun x hx => by
  have := ho.2 x hx
  simp only [wz.f]
  exact Ev.bind (implName_ev x (by omega)) (Ev.now _))
 rw [← notall]
 exact Ev.bind h (Ev.now _)
theorem yfitScopes_ev (l : List ByteArray) (ho : okTexts l) : Ev (fun k => wk.f k l) (scopesL l) := by
 simp only [wk.f]
 unfold scopesL
 by_cases h : l.length ≤ 20
 ·simp only [if_pos (show (l.length : Int) ≤ 20 by omega),if_pos h]
  refine Ev.bind (yrising_ev l ho) ?_
  by_cases hr : risingL l = true
  ·simp only [if_pos hr]
   have e : (if l.all goodName = true then risingL l else false) = l.all goodName := by rw [hr];cases l.all goodName <;> rfl
   rw [e]
   exact Ev.bind (yallNames_ev l ho) (Ev.now _)
  ·simp only [if_neg hr]
   have e : (if l.all goodName = true then risingL l else false) = false := by rw [Bool.eq_false_iff.2 hr];simp
   rw [e]
   exact Ev.now _
 ·simp only [if_neg (show ¬ (l.length : Int) ≤ 20 by omega),if_neg h]
  have e : (if l.all goodName = true then false else false) = false := by simp
  rw [e]
  exact Ev.now _
theorem l18Scopes_l0 (l : List ByteArray) (ho : okTexts l) (d : Nat) : ∀ i : Nat,i + d = l.length → Ev (fun k => qjj.l0 k l l (l.length : Int) (i : Int)) (if (l.drop i).all goodName = true then (if l.length ≤ 20 then risingL l else false) else false) := by
 have hl := ho.1
 induction d with
 | zero =>
  intro i hi
  refine Ev.upW ?_
  simp only [qjj.l0,if_neg (show ¬ (i : Int) < (l.length : Int) by omega)]
  rw [show l.drop i = [] from List.drop_of_length_le (by omega)]
  simp only [List.all_nil,if_true]
  by_cases h : l.length ≤ 20
  ·simp only [if_pos (show (l.length : Int) ≤ 20 by omega),if_pos h]
   exact Ev.bind (l3Rising_ev l ho) (Ev.now _)
  ·simp only [if_neg (show ¬ (l.length : Int) ≤ 20 by omega),if_neg h]
   exact Ev.now _
 | succ d ih =>
  intro i hi
  have hlt : i < l.length := by omega
  have hrest := ih (i + 1) (by omega)
  rw [← wrap_succ hlt (by omega)] at hrest
  have hs1 := rd_sizes ho hlt
  refine Ev.upW ?_
  simp only [qjj.l0,if_pos (show (i : Int) < (l.length : Int) by omega),if_pos (Int.natCast_nonneg i)]
  refine Ev.bind (specName_ev _ (by omega)) ?_
  rw [List.drop_eq_getElem_cons hlt,List.all_cons,← rdStr_nat hlt]
  by_cases hg : goodName (rdOf ByteArray.empty l (i : Int)) = true
  ·simp only [hg,if_true,Bool.true_and]
   exact hrest
  ·simp only [if_neg hg,Bool.eq_false_iff.2 hg,Bool.false_and,if_neg (show ¬ (false = true) by decide)]
   exact Ev.now _
theorem l18Scopes_ev (l : List ByteArray) (ho : okTexts l) : Ev (fun k => qjj.f k l) (scopesL l) := l18Scopes_l0 l ho l.length 0 (by omega)
def toC (e : S96) : S77 := ⟨e.f0,e.f1,e.f2,e.f3,e.f4⟩
def okCl (e : S96) : Prop := okS e.f0 ∧ e.f1.length ≤ 9223372036854775807 ∧ okL okS e.f2 ∧ okL okS e.f3 ∧ e.f4.length ≤ 9223372036854775807
def smCl (a : ByteArray) (b : List Int) (c d : List ByteArray) (e : List Int) : Prop := a.size ≤ 1048576 ∧ b.length ≤ 1048576 ∧ (c.length ≤ 1048576 ∧ ∀ x ∈ c,x.size ≤ 1048576) ∧ (d.length ≤ 1048576 ∧ ∀ x ∈ d,x.size ≤ 1048576) ∧ e.length ≤ 1048576
theorem rdCL_nat {l : List S96} {i : Nat} (h : i < l.length) : vz l (i : Int) = l[i] := by simp [vz,List.getD_eq_getElem?_getD,List.getElem?_eq_getElem h]
theorem rdCI_nat {l : List S77} {i : Nat} (h : i < l.length) : vq l (i : Int) = l[i] := by simp [vq,List.getD_eq_getElem?_getD,List.getElem?_eq_getElem h]
theorem szByteS_any (l : List Int) (left : Int) (h0 : 0 ≤ left) (h1 : left ≤ 1048576) (hmax : l.length ≤ 9223372036854775807) : ∃ r : Int,qqj.f l left = some r ∧ r ≤ 1048576 ∧ (¬ r < 0 → l.length ≤ 1048576) := by
 rw [szByteS_eq,w64 (by omega) (by omega)]
 by_cases hc : left - (l.length : Int) < 0
 ·exact ⟨-1,by rw [if_pos hc],by omega,fun h => by omega⟩
 ·exact ⟨_,by rw [if_neg hc],by omega,fun h => by omega⟩
theorem szClient_ev (e : S96) (ho : okCl e) (left : Int) (h0 : 0 ≤ left) (h1 : left ≤ 1048576) : ∃ r : Int,Ev (fun k => qqk.f k e.f0 e.f1 e.f2 e.f3 e.f4 left) r ∧ r ≤ 1048576 ∧ (¬ r < 0 → smCl e.f0 e.f1 e.f2 e.f3 e.f4) := by
 obtain ⟨o0,o1,o2,o3,o4⟩ := ho
 unfold okS at o0
 have ew : wrap64 (left - (e.f0.size : Int)) = left - (e.f0.size : Int) := w64 (by omega) (by omega)
 simp only [qqk.f,ew]
 by_cases c0 : left - (e.f0.size : Int) < 0
 ·exact ⟨-1,by simp only [if_pos c0];exact Ev.now _,by omega,fun h => by omega⟩
 obtain ⟨r1,e1,b1,s1⟩ := szByteS_any e.f1 (left - (e.f0.size : Int)) (by omega) (by omega) o1
 simp only [if_neg c0,e1,Option.bind_some]
 by_cases c1 : r1 < 0
 ·exact ⟨-1,by simp only [if_pos c1];exact Ev.now _,by omega,fun h => by omega⟩
 obtain ⟨r2,e2,b2,s2⟩ := szStringS_ev e.f2 o2.2 o2.1 r1 (by omega) b1
 by_cases c2 : r2 < 0
 ·exact ⟨-1,by simp only [if_neg c1];refine Ev.bind e2 ?_;simp only [if_pos c2];exact Ev.now _,by omega,fun h => by omega⟩
 obtain ⟨r3,e3,b3,s3⟩ := szStringS_ev e.f3 o3.2 o3.1 r2 (by omega) b2
 by_cases c3 : r3 < 0
 ·exact ⟨-1,by simp only [if_neg c1];refine Ev.bind e2 ?_;simp only [if_neg c2];refine Ev.bind e3 ?_;simp only [if_pos c3];exact Ev.now _,by omega,fun h => by omega⟩
 obtain ⟨r4,e4,b4,s4⟩ := szIntS_eq e.f4 r3 (by omega) b3 o4
 by_cases c4 : r4 < 0
 ·exact ⟨-1,by simp only [if_neg c1];refine Ev.bind e2 ?_;simp only [if_neg c2];refine Ev.bind e3 ?_;simp only [if_neg c3,e4,Option.bind_some,if_pos c4];exact Ev.now _,by omega,fun h => by omega⟩
 ·exact ⟨r4,by simp only [if_neg c1];refine Ev.bind e2 ?_;simp only [if_neg c2];refine Ev.bind e3 ?_;simp only [if_neg c3,e4,Option.bind_some,if_neg c4];exact Ev.now _,b4,fun _ => ⟨by omega,s1 c1,s2 c2,s3 c3,s4 c4⟩⟩
theorem szClientS_ev (l : List S96) (hok : ∀ e ∈ l,okCl e) (hmax : l.length ≤ 9223372036854775807) (left : Int) (h0 : 0 ≤ left) (h1 : left ≤ 1048576) : ∃ r : Int,Ev (fun k => qqv.f k l left) r ∧ r ≤ 1048576 ∧ (¬ r < 0 → l.length ≤ 1048576 ∧ ∀ e ∈ l,smCl e.f0 e.f1 e.f2 e.f3 e.f4) :=
 rows_szf l okCl (fun e => smCl e.f0 e.f1 e.f2 e.f3 e.f4) (fun k x => qqv.f k l x) (fun k x i => qqv.l0 k l x i) (fun k e x => qqk.f k e.f0 e.f1 e.f2 e.f3 e.f4 x) left h0 h1 hmax (fun _ => rfl)
  (fun k x => by simp only [qqv.l0,if_neg (Int.lt_irrefl _)])
  (fun hl k i h x => by simp only [qqv.l0,if_pos (show (i : Int) < (l.length : Int) by omega),if_pos (Int.natCast_nonneg i),rdCL_nat h,wrap_succ h (by omega)])
  hok (fun e he x hx0 hx1 => szClient_ev e he x hx0 hx1)
theorem toClient_ev {a : ByteArray} {b : List Int} {c d : List ByteArray} {e : List Int} (h : smCl a b c d e) : Ev (fun k => qzj.f k a b c d e) (a,b,c,d,e) := by
 obtain ⟨h0,h1,h2,h3,h4⟩ := h
 simp only [qzj.f]
 refine Ev.bind (toByteS_ev b (by omega)) ?_
 refine Ev.bind (toStringS_ev c h2.1) ?_
 refine Ev.bind (toStringS_ev d h3.1) ?_
 refine Ev.bind (toIntS_ev e h4) ?_
 exact Ev.now _
theorem toClientS_ev (l : List S96) (hlen : l.length ≤ 1048576) (hs : ∀ e ∈ l,smCl e.f0 e.f1 e.f2 e.f3 e.f4) : Ev (fun k => qzk.f k l) (l.map toC) := by
 simp only [qzk.f,if_pos (Int.natCast_nonneg l.length),Int.toNat_natCast,if_pos (show l.length ≤ 2513169434916 by omega)]
 have := rows_to l z77 (fun k x i => qzk.l0 k l x i) (fun k e => qzj.f k e.f0 e.f1 e.f2 e.f3 e.f4) (fun t => (⟨t.1,t.2.1,t.2.2.1,t.2.2.2.1,t.2.2.2.2⟩ : S77)) toC hlen
  (fun k x => by simp only [qzk.l0,if_neg (Int.lt_irrefl _)])
  (fun k i h x hx => by simp only [qzk.l0,if_pos (show (i : Int) < (l.length : Int) by omega),if_pos (Int.natCast_nonneg i),rdCL_nat h,wrap_succ h (by omega),if_pos (show (i : Int) < (x.length : Int) by omega),Int.toNat_natCast])
  (fun e he => ⟨_,toClient_ev (hs e he),rfl⟩) l.length 0 (by omega)
 rw [List.take_zero,List.map_nil,List.nil_append] at this
 exact this
theorem eqClient_refl {a : ByteArray} {b : List Int} {c d : List ByteArray} {e : List Int} (h : smCl a b c d e) : Ev (fun k => xv.f k a b c d e a b c d e) true := by
 obtain ⟨h0,h1,h2,h3,h4⟩ := h
 simp only [xv.f,if_true]
 refine Ev.bind (eqByteS_refl b (by omega)) ?_
 simp only [if_true]
 refine Ev.bind (eqStringS_refl c h2.1) ?_
 simp only [if_true]
 refine Ev.bind (eqStringS_refl d h3.1) ?_
 simp only [if_true]
 refine Ev.bind (eqIntS_refl e h4) ?_
 simp only [if_true]
 exact Ev.now _
theorem eqClientS_refl (l : List S77) (hlen : l.length ≤ 1048576) (hs : ∀ e ∈ l,smCl e.f0 e.f1 e.f2 e.f3 e.f4) : Ev (fun k => xw.f k l l) true := by
 simp only [xw.f,if_true]
 exact rows_eq l (fun k i => xw.l0 k l l i) (fun k e => xv.f k e.f0 e.f1 e.f2 e.f3 e.f4 e.f0 e.f1 e.f2 e.f3 e.f4) hlen
  (fun k => by simp only [xw.l0,if_neg (Int.lt_irrefl _)])
  (fun k i h => by simp only [xw.l0,if_pos (show (i : Int) < (l.length : Int) by omega),if_pos (Int.natCast_nonneg i),rdCI_nat h,wrap_succ h (by omega)])
  (fun e he => eqClient_refl (hs e he)) l.length 0 (by omega)
theorem szServer_ev (l : List S96) (key : List Int) (s g : Int) (hok : ∀ e ∈ l,okCl e) (hmax : l.length ≤ 9223372036854775807) (hk : key.length ≤ 9223372036854775807) (left : Int) (h0 : 0 ≤ left) (h1 : left ≤ 1048576) : ∃ r : Int,Ev (fun k => qqx.f k l key s g left) r ∧ r ≤ 1048576 ∧ (¬ r < 0 → (l.length ≤ 1048576 ∧ ∀ e ∈ l,smCl e.f0 e.f1 e.f2 e.f3 e.f4) ∧ key.length ≤ 1048576) := by
 obtain ⟨r1,e1,b1,s1⟩ := szClientS_ev l hok hmax left h0 h1
 simp only [qqx.f]
 by_cases c1 : r1 < 0
 ·exact ⟨-1,by refine Ev.bind e1 ?_;simp only [if_pos c1];exact Ev.now _,by omega,fun h => by omega⟩
 obtain ⟨r2,e2,b2,s2⟩ := szByteS_any key r1 (by omega) b1 hk
 by_cases c2 : r2 < 0
 ·exact ⟨-1,by refine Ev.bind e1 ?_;simp only [if_neg c1,e2,Option.bind_some,if_pos c2];exact Ev.now _,by omega,fun h => by omega⟩
 ·exact ⟨r2,by refine Ev.bind e1 ?_;simp only [if_neg c1,e2,Option.bind_some,if_neg c2];exact Ev.now _,b2,fun _ => ⟨s1 c1,s2 c2⟩⟩
theorem toServer_ev (l : List S96) (key : List Int) (s g : Int) (hlen : l.length ≤ 1048576) (hs : ∀ e ∈ l,smCl e.f0 e.f1 e.f2 e.f3 e.f4) (hk : key.length ≤ 1048576) : Ev (fun k => qzw.f k l key s g) (l.map toC,key,s,g) := by
 simp only [qzw.f]
 refine Ev.bind (toClientS_ev l hlen hs) ?_
 refine Ev.bind (toByteS_ev key (by omega)) ?_
 exact Ev.now _
theorem eqServer_refl (l : List S77) (key : List Int) (s g : Int) (hlen : l.length ≤ 1048576) (hs : ∀ e ∈ l,smCl e.f0 e.f1 e.f2 e.f3 e.f4) (hk : key.length ≤ 1048576) : Ev (fun k => qqq.f k l key s g l key s g) true := by
 simp only [qqq.f]
 refine Ev.bind (eqClientS_refl l hlen hs) ?_
 simp only [if_true]
 refine Ev.bind (eqByteS_refl key (by omega)) ?_
 simp only [if_true]
 exact Ev.now _
def letC (c : Int) : Bool := decide (97 ≤ c ∧ c ≤ 122 ∨ 65 ≤ c ∧ c ≤ 90)
def digC (c : Int) : Bool := decide (48 ≤ c ∧ c ≤ 57)
theorem sletter_eq (c : Int) : qjx.f c = some (letC c) := by
 unfold qjx.f letC
 split
 ·split
  ·congr 1;symm;rw [decide_eq_true_eq];omega
  ·split
   ·congr 1;rw [decide_eq_decide];omega
   ·congr 1;symm;rw [decide_eq_false_iff_not];omega
 ·split
  ·congr 1;rw [decide_eq_decide];omega
  ·congr 1;symm;rw [decide_eq_false_iff_not];omega
theorem sdigit_eq (c : Int) : qjw.f c = some (digC c) := by
 unfold qjw.f digC
 split
 ·congr 1;rw [decide_eq_decide];omega
 ·congr 1;symm;rw [decide_eq_false_iff_not];omega
theorem iletter_eq (c : Int) : ww.f c = some (letC c) := by
 unfold ww.f letC
 split
 ·split
  ·congr 1;symm;rw [decide_eq_true_eq];omega
  ·split
   ·congr 1;rw [decide_eq_decide];omega
   ·congr 1;symm;rw [decide_eq_false_iff_not];omega
 ·split
  ·congr 1;rw [decide_eq_decide];omega
  ·congr 1;symm;rw [decide_eq_false_iff_not];omega
theorem idigit_eq (c : Int) : wj.f c = some (digC c) := by
 unfold wj.f digC
 split
 ·congr 1;rw [decide_eq_decide];omega
 ·congr 1;symm;rw [decide_eq_false_iff_not];omega
def idC (c : Int) : Bool := if letC c = true then true else if digC c = true then true else if c = 95 then true else if c = 45 then true else if c = 46 then true else false
def idN (s : ByteArray) : Nat → Bool
 | 0 => true
 | d + 1 => if idC (bt s ((s.size - (d + 1) : Nat) : Int)) = true then idN s d else false
theorem l7Id_l0 (s : ByteArray) (hs : s.size ≤ 9223372036854775807) (d : Nat) : ∀ (k i : Nat),s.size - i = d → i ≤ s.size → d < k → qkj.l0 k s i = some (if idN s d = true then (if (s.size : Int) ≥ 1 then decide ((s.size : Int) ≤ 40) else false) else false) := by
 induction d with
 | zero =>
  intro k i hd hi hk
  obtain ⟨k,rfl⟩ : ∃ m,k = m + 1 := ⟨k - 1,by omega⟩
  simp only [qkj.l0,idN,if_true]
  rw [if_neg (by omega)]
  split <;> rfl
 | succ d ih =>
  intro k i hd hi hk
  obtain ⟨k,rfl⟩ : ∃ m,k = m + 1 := ⟨k - 1,by omega⟩
  have e0 : s.size - (d + 1) = i := by omega
  simp only [qkj.l0,idN,e0,sletter_eq,sdigit_eq,Option.bind_some]
  rw [if_pos (by omega),if_pos (by omega),w64 (by omega) (by omega),show ((i : Int) + 1) = ((i + 1 : Nat) : Int) from rfl,ih k (i + 1) (by omega) (by omega) (by omega)]
  unfold idC
  split
  ·simp only [if_true]
  ·split
   ·simp only [if_true]
   ·split
    ·simp only [if_true]
    ·split
     ·simp only [if_true]
     ·split <;> simp only [if_true,Bool.false_eq_true,if_false]
theorem ygoodId_l0 (s : ByteArray) (hs : s.size ≤ 9223372036854775807) (d : Nat) : ∀ (k i : Nat),s.size - i = d → i ≤ s.size → d < k → wv.l0 k s (s.size : Int) i = some (idN s d) := by
 induction d with
 | zero =>
  intro k i hd hi hk
  obtain ⟨k,rfl⟩ : ∃ m,k = m + 1 := ⟨k - 1,by omega⟩
  simp only [wv.l0]
  rw [if_neg (by omega)]
  rfl
 | succ d ih =>
  intro k i hd hi hk
  obtain ⟨k,rfl⟩ : ∃ m,k = m + 1 := ⟨k - 1,by omega⟩
  have e0 : s.size - (d + 1) = i := by omega
  simp only [wv.l0,idN,e0,xz.f,iletter_eq,idigit_eq,Option.bind_some]
  rw [if_pos (by omega),if_pos (by omega),if_pos (by omega),w64 (by omega) (by omega),show ((i : Int) + 1) = ((i + 1 : Nat) : Int) from rfl,ih k (i + 1) (by omega) (by omega) (by omega)]
  unfold idC
  by_cases h1 : letC (bt s (i : Int)) = true
  ·simp only [h1,if_true,Option.bind_some]
  ·simp only [h1,Bool.false_eq_true,if_false]
   by_cases h2 : digC (bt s (i : Int)) = true
   ·simp only [h2,if_true,Option.bind_some]
   ·simp only [h2,Bool.false_eq_true,if_false,Option.bind_some,beq_iff_eq]
    by_cases h3 : bt s (i : Int) = 95
    ·simp only [h3,if_true]
    ·simp only [h3,if_false]
     by_cases h4 : bt s (i : Int) = 45
     ·simp only [h4,if_true]
     ·simp only [h4,if_false]
      by_cases h5 : bt s (i : Int) = 46
      ·simp only [h5,if_true]
      ·simp only [h5,if_false,Bool.false_eq_true]
def goodId (s : ByteArray) : Bool := idN s s.size && (decide (1 ≤ s.size) && decide (s.size ≤ 40))
theorem specId_ev (s : ByteArray) (hs : s.size ≤ 9223372036854775807) : Ev (fun k => qkj.f k s) (goodId s) := by
 refine ⟨s.size + 1,fun k hk => ?_⟩
 show qkj.f k s = _
 unfold qkj.f
 have e := l7Id_l0 s hs s.size k 0 (by omega) (by omega) (by omega)
 rw [show (0 : Int) = ((0 : Nat) : Int) from rfl,e]
 congr 1
 unfold goodId
 cases idN s s.size with
 | false => rfl
 | true =>
  simp only [if_true,Bool.true_and]
  by_cases h : 1 ≤ s.size
  ·rw [if_pos (by omega),decide_eq_true h,Bool.true_and,decide_eq_decide];omega
  ·rw [if_neg (by omega),decide_eq_false h,Bool.false_and]
theorem implId_ev (s : ByteArray) (hs : s.size ≤ 9223372036854775807) : Ev (fun k => wv.f k s) (goodId s) := by
 refine ⟨s.size + 2,fun k hk => ?_⟩
 show wv.f k s = _
 obtain ⟨k,rfl⟩ : ∃ m,k = m + 1 := ⟨k - 1,by omega⟩
 unfold wv.f goodId
 by_cases h1 : 1 ≤ s.size
 ·by_cases h2 : s.size ≤ 40
  ·rw [if_neg (by omega),decide_eq_false (by omega),decide_eq_true h1,decide_eq_true h2]
   simp only [wv.j0,Bool.false_eq_true,if_false,Bool.and_true]
   exact ygoodId_l0 s hs s.size k 0 (by omega) (by omega) (by omega)
  ·rw [if_neg (by omega),decide_eq_true (by omega),decide_eq_false h2]
   simp only [wv.j0,if_true,Bool.and_false]
 ·rw [if_pos (by omega),decide_eq_false h1]
  simp only [wv.j0,if_true,Bool.false_and,Bool.and_false]
def prtN (s : ByteArray) : Nat → Bool
 | 0 => true
 | d + 1 => if bt s ((s.size - (d + 1) : Nat) : Int) < 32 then false else if bt s ((s.size - (d + 1) : Nat) : Int) > 126 then false else prtN s d
def prt (s : ByteArray) : Bool := prtN s s.size
theorem l1Printed_l0 (s : ByteArray) (hs : s.size ≤ 9223372036854775807) (d : Nat) : ∀ (k i : Nat),s.size - i = d → i ≤ s.size → d < k → qkq.l0 k s i = some (prtN s d) := by
 induction d with
 | zero =>
  intro k i hd hi hk
  obtain ⟨k,rfl⟩ : ∃ m,k = m + 1 := ⟨k - 1,by omega⟩
  simp only [qkq.l0]
  rw [if_neg (by omega)];rfl
 | succ d ih =>
  intro k i hd hi hk
  obtain ⟨k,rfl⟩ : ∃ m,k = m + 1 := ⟨k - 1,by omega⟩
  have e0 : s.size - (d + 1) = i := by omega
  simp only [qkq.l0,prtN,e0]
  rw [if_pos (by omega),if_pos (by omega),w64 (by omega) (by omega),show ((i : Int) + 1) = ((i + 1 : Nat) : Int) from rfl,ih k (i + 1) (by omega) (by omega) (by omega)]
  split
  ·rfl
  ·split <;> rfl
theorem l1Printed_eq (s : ByteArray) (hs : s.size ≤ 9223372036854775807) (k : Nat) (hk : s.size < k) : qkq.f k s = some (prt s) :=
 l1Printed_l0 s hs s.size k 0 (by omega) (by omega) hk
theorem yprinted_l0 (s : ByteArray) (hs : s.size ≤ 9223372036854775807) (d : Nat) : ∀ (k i : Nat),s.size - i = d → i ≤ s.size → d < k → wx.l0 k s (s.size : Int) i = some (prtN s d) := by
 induction d with
 | zero =>
  intro k i hd hi hk
  obtain ⟨k,rfl⟩ : ∃ m,k = m + 1 := ⟨k - 1,by omega⟩
  simp only [wx.l0]
  rw [if_neg (by omega)];rfl
 | succ d ih =>
  intro k i hd hi hk
  obtain ⟨k,rfl⟩ : ∃ m,k = m + 1 := ⟨k - 1,by omega⟩
  have e0 : s.size - (d + 1) = i := by omega
  simp only [wx.l0,prtN,e0]
  rw [if_pos (by omega),if_pos (by omega),if_pos (by omega),w64 (by omega) (by omega),show ((i : Int) + 1) = ((i + 1 : Nat) : Int) from rfl,ih k (i + 1) (by omega) (by omega) (by omega)]
  split
  ·rfl
  ·split <;> rfl
theorem yprinted_eq (s : ByteArray) (lo hi : Int) (hs : s.size ≤ 9223372036854775807) (k : Nat) (hk : s.size + 1 < k) : wx.f k s lo hi = some (decide (lo ≤ s.size) && decide ((s.size : Int) ≤ hi) && prt s) := by
 obtain ⟨k,rfl⟩ : ∃ m,k = m + 1 := ⟨k - 1,by omega⟩
 unfold wx.f
 have e := yprinted_l0 s hs s.size k 0 (by omega) (by omega) (by omega)
 by_cases h1 : (s.size : Int) < lo
 ·rw [if_pos h1]
  simp only [wx.j0,if_true]
  simp;omega
 ·rw [if_neg h1]
  have h1' : decide (lo ≤ (s.size : Int)) = true := decide_eq_true (by omega)
  by_cases h2 : (s.size : Int) ≤ hi
  ·have h2' : decide ((s.size : Int) > hi) = false := decide_eq_false (by omega)
   have h2'' : decide ((s.size : Int) ≤ hi) = true := decide_eq_true h2
   rw [h1',h2',h2'']
   simp only [wx.j0,Bool.false_eq_true,if_false,Bool.true_and]
   exact e
  ·have h2' : decide ((s.size : Int) > hi) = true := decide_eq_true (by omega)
   have h2'' : decide ((s.size : Int) ≤ hi) = false := decide_eq_false h2
   rw [h1',h2',h2'']
   simp [wx.j0]
abbrev CliS := S77
def badRed (s : ByteArray) : Bool := !(decide ((1 : Int) ≤ s.size) && decide ((s.size : Int) ≤ 200) && prt s)
def badKind (n : Int) : Bool := if n < 1 then true else decide (n > 4)
def tailC (e : CliS) (b : Bool) : Bool := if e.f1.length = 0 ∨ e.f1.length = 16 then (if e.f2.length ≤ 5 then (if scopesL e.f3 = true then (if e.f4.length ≤ 4 then (if e.f2.any badRed = true then false else if e.f4.any badKind = true then false else b) else false) else false) else false) else false
def aheadC (l : List CliS) (i : Nat) : Prop := 0 < i ∧ ¬ cmpT (vq l ((i - 1 : Nat) : Int)).f0 (vq l (i : Int)).f0 < 0
instance (l : List CliS) (i : Nat) : Decidable (aheadC l i) := by unfold aheadC;exact inferInstance
def srvN (l : List CliS) (fin : Bool) : Nat → Bool
 | 0 => fin
 | d + 1 => if goodId (vq l ((l.length - (d + 1) : Nat) : Int)).f0 = true then (if aheadC l (l.length - (d + 1)) then false else tailC (vq l ((l.length - (d + 1) : Nat) : Int)) (srvN l fin d)) else false
theorem tailC_false (e : CliS) : tailC e false = false := by
 unfold tailC
 repeat (first | rfl | split)
theorem srvN_false (l : List CliS) : ∀ d,srvN l false d = false
 | 0 => rfl
 | d + 1 => by
  unfold srvN
  rw [srvN_false l d,tailC_false]
  repeat (first | rfl | split)
def limS (n key : Nat) (s g : Int) : Bool := if n ≤ 20 ∧ key ≤ 64 ∧ 1 ≤ s ∧ s ≤ 1000000 ∧ 1 ≤ g then decide (g ≤ 1000000) else false
def goodServer (l : List CliS) (key : List Int) (s g : Int) : Bool := srvN l (limS l.length key.length s g) l.length
def okSrv (l : List CliS) : Prop := l.length ≤ 1048576 ∧ ∀ e ∈ l,smCl e.f0 e.f1 e.f2 e.f3 e.f4
theorem badRed_impl (s : ByteArray) (hs : s.size ≤ 1048576) : Ev (fun k => vw.f k s) (badRed s) := by
 simp only [vw.f]
 exact Ev.bind (⟨s.size + 2,fun k hk => yprinted_eq s 1 200 (by omega) k (by omega)⟩ : Ev (fun k => wx.f k s 1 200) _) (Ev.now _)
theorem redirs_ev (l : List ByteArray) (ho : okTexts l) : Ev (fun k => has_impl_GoodServer_1.f k l) (l.any badRed) := anyO_ev (fun k x => vw.f k x) badRed l (fun x hx => badRed_impl x (ho.2 x hx))
theorem kinds_ev (l : List Int) : Ev (fun k => has_impl_GoodServer_2.f k l) (l.any badKind) := anyO_ev (fun k x => vx.f x) badKind l (fun x hx => by
 unfold vx.f badKind
 by_cases h : x < 1
 ·simp only [if_pos h];exact Ev.now _
 ·simp only [if_neg h];exact Ev.now _)
theorem iSrv_j2 (e : CliS) (hs : smCl e.f0 e.f1 e.f2 e.f3 e.f4) (a : List CliS) (b c : Int) (x : List CliS) (y : List Int) (s g : Int) (v : Bool) (h : Ev (fun k => vv.l0 k a b (wrap64 (c + 1)) x y s g) v) :
  Ev (fun k => vv.j2 k a b c false x y s g e.f0 e.f1 e.f2 e.f3 e.f4) (if e.f2.any badRed = true then false else if e.f4.any badKind = true then false else v) := by
 refine Ev.upW ?_
 simp only [vv.j2,if_neg (show ¬ (false = true) by decide)]
 refine Ev.bind (redirs_ev e.f2 hs.2.2.1) ?_
 by_cases h1 : e.f2.any badRed = true
 ·simp only [if_pos h1];exact Ev.now _
 simp only [if_neg h1]
 refine Ev.bind (kinds_ev e.f4) ?_
 by_cases h2 : e.f4.any badKind = true
 ·simp only [if_pos h2];exact Ev.now _
 simp only [if_neg h2]
 exact h
theorem iSrv_true (e : CliS) (a : List CliS) (b c : Int) (x : List CliS) (y : List Int) (s g : Int) : Ev (fun k => vv.j2 k a b c true x y s g e.f0 e.f1 e.f2 e.f3 e.f4) false := by
 refine Ev.upW ?_
 simp only [vv.j2,if_true]
 exact Ev.now _
theorem sSrv_true (e : CliS) (a : List CliS) (b c : Int) (x : List CliS) (y : List Int) (s g : Int) : Ev (fun k => qjz.j1 k a b c true x y s g e.f0 e.f1 e.f2 e.f3 e.f4) false := by
 refine Ev.upW ?_
 simp only [qjz.j1,if_true]
 exact Ev.now _
theorem sSrv_l2 (a : List CliS) (b c : Int) (l : List Int) (hl : l.length ≤ 1048576) (x : List CliS) (y : List Int) (s g : Int) (v : Bool) (h : Ev (fun k => qjz.l0 k a b (wrap64 (c + 1)) x y s g) v) (d : Nat) :
  ∀ i : Nat,i + d = l.length → Ev (fun k => qjz.l2 k a b c l (l.length : Int) (i : Int) x y s g) (if (l.drop i).any badKind = true then false else v) := by
 induction d with
 | zero =>
  intro i hi
  refine Ev.upW ?_
  simp only [qjz.l2,if_neg (show ¬ (i : Int) < (l.length : Int) by omega)]
  rw [show l.drop i = [] from List.drop_of_length_le (by omega)]
  simp only [List.any_nil,if_neg (show ¬ (false = true) by decide)]
  exact h
 | succ d ih =>
  intro i hi
  have hlt : i < l.length := by omega
  have hrest := ih (i + 1) (by omega)
  rw [← wrap_succ hlt (by omega)] at hrest
  refine Ev.upW ?_
  simp only [qjz.l2,if_pos (show (i : Int) < (l.length : Int) by omega),if_pos (Int.natCast_nonneg i)]
  rw [List.drop_eq_getElem_cons hlt,List.any_cons,← rd_nat hlt]
  unfold badKind at hrest ⊢
  by_cases h1 : rd l (i : Int) < 1
  ·simp only [if_pos h1,Bool.true_or,if_true];exact Ev.now _
  by_cases h2 : rd l (i : Int) > 4
  ·simp only [if_neg h1,if_pos h2,decide_eq_true h2,Bool.true_or,if_true];exact Ev.now _
  simp only [if_neg h1,if_neg h2,decide_eq_false h2,Bool.false_or]
  exact hrest
theorem sSrv_l1 (e : CliS) (hs : smCl e.f0 e.f1 e.f2 e.f3 e.f4) (a : List CliS) (b c : Int) (x : List CliS) (y : List Int) (s g : Int) (v : Bool) (h : Ev (fun k => qjz.l0 k a b (wrap64 (c + 1)) x y s g) v) (d : Nat) :
  ∀ i : Nat,i + d = e.f2.length → Ev (fun k => qjz.l1 k a b c e.f2 (e.f2.length : Int) (i : Int) x y s g e.f0 e.f1 e.f2 e.f3 e.f4) (if (e.f2.drop i).any badRed = true then false else if e.f4.any badKind = true then false else v) := by
 have hl := hs.2.2.1.1
 induction d with
 | zero =>
  intro i hi
  refine Ev.upW ?_
  simp only [qjz.l1,if_neg (show ¬ (i : Int) < (e.f2.length : Int) by omega)]
  rw [show e.f2.drop i = [] from List.drop_of_length_le (by omega)]
  simp only [List.any_nil,if_neg (show ¬ (false = true) by decide)]
  exact sSrv_l2 a b c e.f4 hs.2.2.2.2 x y s g v h e.f4.length 0 (by omega)
 | succ d ih =>
  intro i hi
  have hlt : i < e.f2.length := by omega
  have hrest := ih (i + 1) (by omega)
  rw [← wrap_succ hlt (by omega)] at hrest
  have hs1 := rd_sizes hs.2.2.1 hlt
  refine Ev.upW ?_
  simp only [qjz.l1,if_pos (show (i : Int) < (e.f2.length : Int) by omega),if_pos (Int.natCast_nonneg i)]
  rw [List.drop_eq_getElem_cons hlt,List.any_cons,← rdStr_nat hlt]
  by_cases h1 : ((rdOf ByteArray.empty e.f2 (i : Int)).size : Int) < 1
  ·have hb : badRed (rdOf ByteArray.empty e.f2 (i : Int)) = true := by unfold badRed;rw [decide_eq_false (by omega)];simp
   simp only [if_pos h1,hb,Bool.true_or,if_true];exact Ev.now _
  by_cases h2 : ((rdOf ByteArray.empty e.f2 (i : Int)).size : Int) > 200
  ·have hb : badRed (rdOf ByteArray.empty e.f2 (i : Int)) = true := by unfold badRed;rw [decide_eq_false (show ¬ ((rdOf ByteArray.empty e.f2 (i : Int)).size : Int) ≤ 200 by omega)];simp
   simp only [if_neg h1,if_pos h2,hb,Bool.true_or,if_true];exact Ev.now _
  have hb : badRed (rdOf ByteArray.empty e.f2 (i : Int)) = !prt (rdOf ByteArray.empty e.f2 (i : Int)) := by unfold badRed;rw [decide_eq_true (by omega),decide_eq_true (by omega)];rfl
  simp only [if_neg h1,if_neg h2,hb]
  refine Ev.bind (⟨(rdOf ByteArray.empty e.f2 (i : Int)).size + 1,fun k hk => l1Printed_eq _ (by omega) k (by omega)⟩ : Ev (fun k => qkq.f k (rdOf ByteArray.empty e.f2 (i : Int))) _) ?_
  by_cases h3 : prt (rdOf ByteArray.empty e.f2 (i : Int)) = true
  ·simp only [h3,if_true,Bool.not_true,Bool.false_or]
   exact hrest
  ·simp only [if_neg h3,Bool.eq_false_iff.2 h3,Bool.not_false,Bool.true_or,if_true]
   exact Ev.now _
theorem sSrv_j1 (e : CliS) (hs : smCl e.f0 e.f1 e.f2 e.f3 e.f4) (a : List CliS) (b c : Int) (x : List CliS) (y : List Int) (s g : Int) (v : Bool) (h : Ev (fun k => qjz.l0 k a b (wrap64 (c + 1)) x y s g) v) :
  Ev (fun k => qjz.j1 k a b c false x y s g e.f0 e.f1 e.f2 e.f3 e.f4) (if e.f2.any badRed = true then false else if e.f4.any badKind = true then false else v) := by
 refine Ev.upW ?_
 simp only [qjz.j1,if_neg (show ¬ (false = true) by decide)]
 exact sSrv_l1 e hs a b c x y s g v h e.f2.length 0 (by omega)
theorem implSrv_l0 (l : List CliS) (key : List Int) (s g : Int) (ho : okSrv l) (d : Nat) : ∀ i : Nat,i + d = l.length → Ev (fun k => vv.l0 k l (l.length : Int) (i : Int) l key s g) (srvN l true d) := by
 have hl := ho.1
 induction d with
 | zero =>
  intro i hi
  refine Ev.upW ?_
  simp only [vv.l0,if_neg (show ¬ (i : Int) < (l.length : Int) by omega)]
  exact Ev.now _
 | succ d ih =>
  intro i hi
  have hlt : i < l.length := by omega
  have hs := ho.2 _ (List.getElem_mem hlt)
  rw [← rdCI_nat hlt] at hs
  have hrest := ih (i + 1) (by omega)
  rw [← wrap_succ hlt (by omega)] at hrest
  have htrue : Ev (fun k => (vv.j2 k l (l.length : Int) (i : Int) true l key s g (vq l (i : Int)).f0 (vq l (i : Int)).f1 (vq l (i : Int)).f2 (vq l (i : Int)).f3 (vq l (i : Int)).f4)) false := iSrv_true (vq l (i : Int)) l (l.length : Int) (i : Int) l key s g
  have hA : Ev (fun k => (if ((vq l (i : Int)).f2.length : Int) > 5 then (vv.j2 k l (l.length : Int) (i : Int) true l key s g (vq l (i : Int)).f0 (vq l (i : Int)).f1 (vq l (i : Int)).f2 (vq l (i : Int)).f3 (vq l (i : Int)).f4) else ((wk.f k (vq l (i : Int)).f3).bind fun t => (if t = true then (vv.j2 k l (l.length : Int) (i : Int) (decide (((vq l (i : Int)).f4.length : Int) > 4)) l key s g (vq l (i : Int)).f0 (vq l (i : Int)).f1 (vq l (i : Int)).f2 (vq l (i : Int)).f3 (vq l (i : Int)).f4) else (vv.j2 k l (l.length : Int) (i : Int) true l key s g (vq l (i : Int)).f0 (vq l (i : Int)).f1 (vq l (i : Int)).f2 (vq l (i : Int)).f3 (vq l (i : Int)).f4))))) (if (vq l (i : Int)).f2.length ≤ 5 then (if scopesL (vq l (i : Int)).f3 = true then (if (vq l (i : Int)).f4.length ≤ 4 then (if (vq l (i : Int)).f2.any badRed = true then false else if (vq l (i : Int)).f4.any badKind = true then false else srvN l true d) else false) else false) else false) := by
   by_cases h2 : (vq l (i : Int)).f2.length ≤ 5
   ·simp only [if_pos h2,if_neg (show ¬ ((vq l (i : Int)).f2.length : Int) > 5 by omega)]
    refine Ev.bind (yfitScopes_ev (vq l (i : Int)).f3 hs.2.2.2.1) ?_
    by_cases h3 : scopesL (vq l (i : Int)).f3 = true
    ·simp only [if_pos h3]
     by_cases h4 : (vq l (i : Int)).f4.length ≤ 4
     ·simp only [if_pos h4,decide_eq_false (show ¬ ((vq l (i : Int)).f4.length : Int) > 4 by omega)]
      exact iSrv_j2 (vq l (i : Int)) hs l (l.length : Int) (i : Int) l key s g _ hrest
     ·simp only [if_neg h4,decide_eq_true (show ((vq l (i : Int)).f4.length : Int) > 4 by omega)]
      exact htrue
    ·simp only [if_neg h3]
     exact htrue
   ·simp only [if_neg h2,if_pos (show ((vq l (i : Int)).f2.length : Int) > 5 by omega)]
    exact htrue
  have htail : Ev (fun k => (if ((vq l (i : Int)).f1.length : Int) = 0 then (if ((vq l (i : Int)).f2.length : Int) > 5 then (vv.j2 k l (l.length : Int) (i : Int) true l key s g (vq l (i : Int)).f0 (vq l (i : Int)).f1 (vq l (i : Int)).f2 (vq l (i : Int)).f3 (vq l (i : Int)).f4) else ((wk.f k (vq l (i : Int)).f3).bind fun t => (if t = true then (vv.j2 k l (l.length : Int) (i : Int) (decide (((vq l (i : Int)).f4.length : Int) > 4)) l key s g (vq l (i : Int)).f0 (vq l (i : Int)).f1 (vq l (i : Int)).f2 (vq l (i : Int)).f3 (vq l (i : Int)).f4) else (vv.j2 k l (l.length : Int) (i : Int) true l key s g (vq l (i : Int)).f0 (vq l (i : Int)).f1 (vq l (i : Int)).f2 (vq l (i : Int)).f3 (vq l (i : Int)).f4)))) else (if ((vq l (i : Int)).f1.length : Int) = 16 then (if ((vq l (i : Int)).f2.length : Int) > 5 then (vv.j2 k l (l.length : Int) (i : Int) true l key s g (vq l (i : Int)).f0 (vq l (i : Int)).f1 (vq l (i : Int)).f2 (vq l (i : Int)).f3 (vq l (i : Int)).f4) else ((wk.f k (vq l (i : Int)).f3).bind fun t => (if t = true then (vv.j2 k l (l.length : Int) (i : Int) (decide (((vq l (i : Int)).f4.length : Int) > 4)) l key s g (vq l (i : Int)).f0 (vq l (i : Int)).f1 (vq l (i : Int)).f2 (vq l (i : Int)).f3 (vq l (i : Int)).f4) else (vv.j2 k l (l.length : Int) (i : Int) true l key s g (vq l (i : Int)).f0 (vq l (i : Int)).f1 (vq l (i : Int)).f2 (vq l (i : Int)).f3 (vq l (i : Int)).f4)))) else (vv.j2 k l (l.length : Int) (i : Int) true l key s g (vq l (i : Int)).f0 (vq l (i : Int)).f1 (vq l (i : Int)).f2 (vq l (i : Int)).f3 (vq l (i : Int)).f4)))) (tailC (vq l (i : Int)) (srvN l true d)) := by
   unfold tailC
   by_cases h1 : (vq l (i : Int)).f1.length = 0
   ·simp only [if_pos (show (vq l (i : Int)).f1.length = 0 ∨ (vq l (i : Int)).f1.length = 16 from .inl h1),if_pos (show ((vq l (i : Int)).f1.length : Int) = 0 by omega)]
    exact hA
   ·by_cases h2 : (vq l (i : Int)).f1.length = 16
    ·simp only [if_pos (show (vq l (i : Int)).f1.length = 0 ∨ (vq l (i : Int)).f1.length = 16 from .inr h2),if_neg (show ¬ ((vq l (i : Int)).f1.length : Int) = 0 by omega),if_pos (show ((vq l (i : Int)).f1.length : Int) = 16 by omega)]
     exact hA
    ·simp only [if_neg (show ¬ ((vq l (i : Int)).f1.length = 0 ∨ (vq l (i : Int)).f1.length = 16) from fun h => h.elim h1 h2),if_neg (show ¬ ((vq l (i : Int)).f1.length : Int) = 0 by omega),if_neg (show ¬ ((vq l (i : Int)).f1.length : Int) = 16 by omega)]
     exact htrue
  refine Ev.upW ?_
  simp only [vv.l0,srvN,show l.length - (d + 1) = i by omega,if_pos (show (i : Int) < (l.length : Int) by omega),if_pos (Int.natCast_nonneg i)]
  refine Ev.bind (implId_ev _ (by have := hs.1;omega)) ?_
  by_cases hid : goodId (vq l (i : Int)).f0 = true
  ·simp only [if_pos hid]
   by_cases h0 : 0 < i
   ·have e3 : wrap64 ((i : Int) - 1) = ((i - 1 : Nat) : Int) := by rw [w64 (by omega) (by omega)];omega
    have hs1 := ho.2 _ (List.getElem_mem (show i - 1 < l.length by omega))
    rw [← rdCI_nat (show i - 1 < l.length by omega)] at hs1
    simp only [if_pos (show (i : Int) > 0 by omega),e3,if_pos (Int.natCast_nonneg (i - 1)),if_pos (show ((i - 1 : Nat) : Int) < (l.length : Int) by omega),cmpT_less]
    by_cases hc : cmpT (vq l ((i - 1 : Nat) : Int)).f0 (vq l (i : Int)).f0 < 0
    ·simp only [decide_eq_true hc,if_true,if_neg (show ¬ aheadC l i from fun h => h.2 hc)]
     exact htail
    ·simp only [decide_eq_false hc,if_neg (show ¬ (false = true) by decide),if_pos (show aheadC l i from ⟨h0,hc⟩)]
     exact htrue
   ·simp only [if_neg (show ¬ (i : Int) > 0 by omega),if_neg (show ¬ aheadC l i from fun h => h0 h.1)]
    exact htail
  ·simp only [if_neg hid]
   first | exact htrue | exact Ev.now _
theorem specSrv_l0 (l : List CliS) (key : List Int) (s g : Int) (ho : okSrv l) (d : Nat) : ∀ i : Nat,i + d = l.length → Ev (fun k => qjz.l0 k l (l.length : Int) (i : Int) l key s g) (srvN l (limS l.length key.length s g) d) := by
 have hl := ho.1
 induction d with
 | zero =>
  intro i hi
  refine Ev.upW ?_
  simp only [qjz.l0,if_neg (show ¬ (i : Int) < (l.length : Int) by omega)]
  unfold srvN limS
  by_cases h1 : l.length ≤ 20
  ·by_cases h2 : key.length ≤ 64
   ·by_cases h3 : 1 ≤ s
    ·by_cases h4 : s ≤ 1000000
     ·by_cases h5 : 1 ≤ g
      ·simp only [if_pos (show (l.length : Int) ≤ 20 by omega),if_pos (show (key.length : Int) ≤ 64 by omega),if_pos (show s ≥ 1 from h3),if_pos h4,if_pos (show g ≥ 1 from h5),if_pos (show l.length ≤ 20 ∧ key.length ≤ 64 ∧ 1 ≤ s ∧ s ≤ 1000000 ∧ 1 ≤ g from ⟨h1,h2,h3,h4,h5⟩)]
       exact Ev.now _
      ·simp only [if_pos (show (l.length : Int) ≤ 20 by omega),if_pos (show (key.length : Int) ≤ 64 by omega),if_pos (show s ≥ 1 from h3),if_pos h4,if_neg (show ¬ g ≥ 1 from h5),if_neg (show ¬ (l.length ≤ 20 ∧ key.length ≤ 64 ∧ 1 ≤ s ∧ s ≤ 1000000 ∧ 1 ≤ g) from fun h => h5 h.2.2.2.2)]
       exact Ev.now _
     ·simp only [if_pos (show (l.length : Int) ≤ 20 by omega),if_pos (show (key.length : Int) ≤ 64 by omega),if_pos (show s ≥ 1 from h3),if_neg h4,if_neg (show ¬ (l.length ≤ 20 ∧ key.length ≤ 64 ∧ 1 ≤ s ∧ s ≤ 1000000 ∧ 1 ≤ g) from fun h => h4 h.2.2.2.1)]
      exact Ev.now _
    ·simp only [if_pos (show (l.length : Int) ≤ 20 by omega),if_pos (show (key.length : Int) ≤ 64 by omega),if_neg (show ¬ s ≥ 1 from h3),if_neg (show ¬ (l.length ≤ 20 ∧ key.length ≤ 64 ∧ 1 ≤ s ∧ s ≤ 1000000 ∧ 1 ≤ g) from fun h => h3 h.2.2.1)]
     exact Ev.now _
   ·simp only [if_pos (show (l.length : Int) ≤ 20 by omega),if_neg (show ¬ (key.length : Int) ≤ 64 by omega),if_neg (show ¬ (l.length ≤ 20 ∧ key.length ≤ 64 ∧ 1 ≤ s ∧ s ≤ 1000000 ∧ 1 ≤ g) from fun h => h2 h.2.1)]
    exact Ev.now _
  ·simp only [if_neg (show ¬ (l.length : Int) ≤ 20 by omega),if_neg (show ¬ (l.length ≤ 20 ∧ key.length ≤ 64 ∧ 1 ≤ s ∧ s ≤ 1000000 ∧ 1 ≤ g) from fun h => h1 h.1)]
   exact Ev.now _
 | succ d ih =>
  intro i hi
  have hlt : i < l.length := by omega
  have hs := ho.2 _ (List.getElem_mem hlt)
  rw [← rdCI_nat hlt] at hs
  have hrest := ih (i + 1) (by omega)
  rw [← wrap_succ hlt (by omega)] at hrest
  have htrue : Ev (fun k => (qjz.j1 k l (l.length : Int) (i : Int) true l key s g (vq l (i : Int)).f0 (vq l (i : Int)).f1 (vq l (i : Int)).f2 (vq l (i : Int)).f3 (vq l (i : Int)).f4)) false := sSrv_true (vq l (i : Int)) l (l.length : Int) (i : Int) l key s g
  have hA : Ev (fun k => (if ((vq l (i : Int)).f2.length : Int) > 5 then (qjz.j1 k l (l.length : Int) (i : Int) true l key s g (vq l (i : Int)).f0 (vq l (i : Int)).f1 (vq l (i : Int)).f2 (vq l (i : Int)).f3 (vq l (i : Int)).f4) else ((qjj.f k (vq l (i : Int)).f3).bind fun t => (if t = true then (qjz.j1 k l (l.length : Int) (i : Int) (decide (((vq l (i : Int)).f4.length : Int) > 4)) l key s g (vq l (i : Int)).f0 (vq l (i : Int)).f1 (vq l (i : Int)).f2 (vq l (i : Int)).f3 (vq l (i : Int)).f4) else (qjz.j1 k l (l.length : Int) (i : Int) true l key s g (vq l (i : Int)).f0 (vq l (i : Int)).f1 (vq l (i : Int)).f2 (vq l (i : Int)).f3 (vq l (i : Int)).f4))))) (if (vq l (i : Int)).f2.length ≤ 5 then (if scopesL (vq l (i : Int)).f3 = true then (if (vq l (i : Int)).f4.length ≤ 4 then (if (vq l (i : Int)).f2.any badRed = true then false else if (vq l (i : Int)).f4.any badKind = true then false else srvN l (limS l.length key.length s g) d) else false) else false) else false) := by
   by_cases h2 : (vq l (i : Int)).f2.length ≤ 5
   ·simp only [if_pos h2,if_neg (show ¬ ((vq l (i : Int)).f2.length : Int) > 5 by omega)]
    refine Ev.bind (l18Scopes_ev (vq l (i : Int)).f3 hs.2.2.2.1) ?_
    by_cases h3 : scopesL (vq l (i : Int)).f3 = true
    ·simp only [if_pos h3]
     by_cases h4 : (vq l (i : Int)).f4.length ≤ 4
     ·simp only [if_pos h4,decide_eq_false (show ¬ ((vq l (i : Int)).f4.length : Int) > 4 by omega)]
      exact sSrv_j1 (vq l (i : Int)) hs l (l.length : Int) (i : Int) l key s g _ hrest
     ·simp only [if_neg h4,decide_eq_true (show ((vq l (i : Int)).f4.length : Int) > 4 by omega)]
      exact htrue
    ·simp only [if_neg h3]
     exact htrue
   ·simp only [if_neg h2,if_pos (show ((vq l (i : Int)).f2.length : Int) > 5 by omega)]
    exact htrue
  have htail : Ev (fun k => (if ((vq l (i : Int)).f1.length : Int) = 0 then (if ((vq l (i : Int)).f2.length : Int) > 5 then (qjz.j1 k l (l.length : Int) (i : Int) true l key s g (vq l (i : Int)).f0 (vq l (i : Int)).f1 (vq l (i : Int)).f2 (vq l (i : Int)).f3 (vq l (i : Int)).f4) else ((qjj.f k (vq l (i : Int)).f3).bind fun t => (if t = true then (qjz.j1 k l (l.length : Int) (i : Int) (decide (((vq l (i : Int)).f4.length : Int) > 4)) l key s g (vq l (i : Int)).f0 (vq l (i : Int)).f1 (vq l (i : Int)).f2 (vq l (i : Int)).f3 (vq l (i : Int)).f4) else (qjz.j1 k l (l.length : Int) (i : Int) true l key s g (vq l (i : Int)).f0 (vq l (i : Int)).f1 (vq l (i : Int)).f2 (vq l (i : Int)).f3 (vq l (i : Int)).f4)))) else (if ((vq l (i : Int)).f1.length : Int) = 16 then (if ((vq l (i : Int)).f2.length : Int) > 5 then (qjz.j1 k l (l.length : Int) (i : Int) true l key s g (vq l (i : Int)).f0 (vq l (i : Int)).f1 (vq l (i : Int)).f2 (vq l (i : Int)).f3 (vq l (i : Int)).f4) else ((qjj.f k (vq l (i : Int)).f3).bind fun t => (if t = true then (qjz.j1 k l (l.length : Int) (i : Int) (decide (((vq l (i : Int)).f4.length : Int) > 4)) l key s g (vq l (i : Int)).f0 (vq l (i : Int)).f1 (vq l (i : Int)).f2 (vq l (i : Int)).f3 (vq l (i : Int)).f4) else (qjz.j1 k l (l.length : Int) (i : Int) true l key s g (vq l (i : Int)).f0 (vq l (i : Int)).f1 (vq l (i : Int)).f2 (vq l (i : Int)).f3 (vq l (i : Int)).f4)))) else (qjz.j1 k l (l.length : Int) (i : Int) true l key s g (vq l (i : Int)).f0 (vq l (i : Int)).f1 (vq l (i : Int)).f2 (vq l (i : Int)).f3 (vq l (i : Int)).f4)))) (tailC (vq l (i : Int)) (srvN l (limS l.length key.length s g) d)) := by
   unfold tailC
   by_cases h1 : (vq l (i : Int)).f1.length = 0
   ·simp only [if_pos (show (vq l (i : Int)).f1.length = 0 ∨ (vq l (i : Int)).f1.length = 16 from .inl h1),if_pos (show ((vq l (i : Int)).f1.length : Int) = 0 by omega)]
    exact hA
   ·by_cases h2 : (vq l (i : Int)).f1.length = 16
    ·simp only [if_pos (show (vq l (i : Int)).f1.length = 0 ∨ (vq l (i : Int)).f1.length = 16 from .inr h2),if_neg (show ¬ ((vq l (i : Int)).f1.length : Int) = 0 by omega),if_pos (show ((vq l (i : Int)).f1.length : Int) = 16 by omega)]
     exact hA
    ·simp only [if_neg (show ¬ ((vq l (i : Int)).f1.length = 0 ∨ (vq l (i : Int)).f1.length = 16) from fun h => h.elim h1 h2),if_neg (show ¬ ((vq l (i : Int)).f1.length : Int) = 0 by omega),if_neg (show ¬ ((vq l (i : Int)).f1.length : Int) = 16 by omega)]
     exact htrue
  refine Ev.upW ?_
  simp only [qjz.l0,srvN,show l.length - (d + 1) = i by omega,if_pos (show (i : Int) < (l.length : Int) by omega),if_pos (Int.natCast_nonneg i)]
  refine Ev.bind (specId_ev _ (by have := hs.1;omega)) ?_
  by_cases hid : goodId (vq l (i : Int)).f0 = true
  ·simp only [if_pos hid]
   by_cases h0 : 0 < i
   ·have e3 : wrap64 ((i : Int) - 1) = ((i - 1 : Nat) : Int) := by rw [w64 (by omega) (by omega)];omega
    have hs1 := ho.2 _ (List.getElem_mem (show i - 1 < l.length by omega))
    rw [← rdCI_nat (show i - 1 < l.length by omega)] at hs1
    simp only [if_pos (show (i : Int) > 0 by omega),e3,if_pos (Int.natCast_nonneg (i - 1)),if_pos (show ((i - 1 : Nat) : Int) < (l.length : Int) by omega)]
    refine Ev.bind (cmpT_ev _ _ (by have := hs1.1;omega) (by have := hs.1;omega)) ?_
    by_cases hc : cmpT (vq l ((i - 1 : Nat) : Int)).f0 (vq l (i : Int)).f0 < 0
    ·simp only [if_neg (show ¬ cmpT (vq l ((i - 1 : Nat) : Int)).f0 (vq l (i : Int)).f0 ≥ 0 by omega),if_neg (show ¬ aheadC l i from fun h => h.2 hc)]
     exact htail
    ·simp only [if_pos (show cmpT (vq l ((i - 1 : Nat) : Int)).f0 (vq l (i : Int)).f0 ≥ 0 by omega),if_pos (show aheadC l i from ⟨h0,hc⟩)]
     exact htrue
   ·simp only [if_neg (show ¬ (i : Int) > 0 by omega),if_neg (show ¬ aheadC l i from fun h => h0 h.1)]
    exact htail
  ·simp only [if_neg hid]
   first | exact htrue | exact Ev.now _
theorem specServer_ev (l : List CliS) (key : List Int) (s g : Int) (ho : okSrv l) : Ev (fun k => qjz.f k l key s g) (goodServer l key s g) := specSrv_l0 l key s g ho l.length 0 (by omega)
theorem implServer_ev (l : List CliS) (key : List Int) (s g : Int) (ho : okSrv l) : Ev (fun k => vv.f k l key s g) (goodServer l key s g) := by
 have h := implSrv_l0 l key s g ho l.length 0 (by omega)
 have hj : ∀ b : Bool,Ev (fun k => vv.j0 k b l key s g) (if b = true then false else srvN l true l.length) := fun b => by
  refine Ev.upW ?_
  simp only [vv.j0]
  cases b with
  | true => simp only [if_true];exact Ev.now _
  | false => simp only [if_neg (show ¬ (false = true) by decide)];exact h
 have ht := hj true
 rw [if_pos rfl] at ht
 unfold goodServer limS
 simp only [vv.f]
 by_cases h1 : l.length ≤ 20
 case neg => rw [if_neg (fun h => h1 h.1),srvN_false];simp only [if_pos (show (l.length : Int) > 20 by omega)];exact ht
 simp only [if_neg (show ¬ (l.length : Int) > 20 by omega)]
 by_cases h2 : key.length ≤ 64
 case neg => rw [if_neg (fun h => h2 h.2.1),srvN_false];simp only [if_pos (show (key.length : Int) > 64 by omega)];exact ht
 simp only [if_neg (show ¬ (key.length : Int) > 64 by omega)]
 by_cases h3 : 1 ≤ s
 case neg => rw [if_neg (fun h => h3 h.2.2.1),srvN_false];simp only [if_pos (show s < 1 by omega)];exact ht
 simp only [if_neg (show ¬ s < 1 by omega)]
 by_cases h4 : s ≤ 1000000
 case neg => rw [if_neg (fun h => h4 h.2.2.2.1),srvN_false];simp only [if_pos (show s > 1000000 by omega)];exact ht
 simp only [if_neg (show ¬ s > 1000000 by omega)]
 by_cases h5 : 1 ≤ g
 case neg => rw [if_neg (fun h => h5 h.2.2.2.2),srvN_false];simp only [if_pos (show g < 1 by omega)];exact ht
 simp only [if_neg (show ¬ g < 1 by omega)]
 rw [if_pos ⟨h1,h2,h3,h4,h5⟩]
 have hd := hj (decide (g > 1000000))
 by_cases h6 : g ≤ 1000000
 ·rw [decide_eq_true h6]
  rw [decide_eq_false (show ¬ g > 1000000 by omega)] at hd ⊢
  exact hd
 ·rw [decide_eq_false h6,srvN_false]
  rw [decide_eq_true (show g > 1000000 by omega)] at hd ⊢
  exact hd
end Go.Proofs.Ytakocdkcfjkmdaa.Pr
namespace Go.Proofs.Ytakocdkcfjkmdaa.Pure
open Go.RowKit Go.Proofs.Ytakocdkcfjkmdaa.Read Go.Proofs.YtakocdkcfjkmdaaW.PrintWords Go.Proofs.Ytakocdkcfjkmdaa.Pr
set_option linter.unusedVariables false
set_option linter.unusedSimpArgs false
theorem FnExactGoodServer : xj.Pure := by
 intro l key s g hl hk _ _
 obtain ⟨r,hr,_,hsmall⟩ := szServer_ev l key s g (fun e he => by have := hl.2 e he;exact ⟨this.1,this.2.1.1,this.2.2.1,this.2.2.2.1,this.2.2.2.2.1⟩) hl.1 hk.1 1048576 (by omega) (by omega)
 apply Ev.rounds
 simp only [xj.f]
 refine Ev.bind hr ?_
 by_cases hneg : r < 0
 ·simp only [if_pos hneg];exact Ev.now _
 obtain ⟨⟨hlen,hs⟩,hkl⟩ := hsmall hneg
 simp only [if_neg hneg]
 have hto := toServer_ev l key s g hlen hs hkl
 have hsm : ∀ e ∈ l.map toC,smCl e.f0 e.f1 e.f2 e.f3 e.f4 := fun e he => by
  obtain ⟨x,hx,rfl⟩ := List.mem_map.1 he
  exact hs x hx
 have hl2 : (l.map toC).length ≤ 1048576 := by rw [List.length_map];exact hlen
 refine Ev.bind hto ?_
 refine Ev.bind (specServer_ev _ key s g ⟨hl2,hsm⟩) ?_
 refine Ev.bind hto ?_
 refine Ev.bind (implServer_ev _ key s g ⟨hl2,hsm⟩) ?_
 simp only [bne_self_eq_false,if_neg (show ¬ (false = true) by decide)]
 refine Ev.bind hto ?_
 refine Ev.bind (eqServer_refl _ key s g hl2 hsm hkl) ?_
 simp only [if_true]
 exact Ev.now _
end Go.Proofs.Ytakocdkcfjkmdaa.Pure
namespace Go.Proofs.Ytakocdkcfjkmdaa.fnExactGoodServer
open Go.ChangeShapes Go.WideShapes Go.ChangeAt Go.RowKit Go.Proofs.Ytakocdkcfjkmdaa.Read Go.Proofs.YtakocdkcfjkmdaaW.PrintWords Go.Proofs.Ytakocdkcfjkmdaa.Pr
open Go.ChangeMaps (open_string shut_string)
set_option linter.unusedVariables false
theorem own : ownKnob Try.prog.godebug = none := by kernel_rfl
theorem laidOut : laidOutB Try.prog = true := by kernel_rfl
set_option maxRecDepth 100000 in
theorem lifted (os : Os) (started : os.Started) (H : Type) (enc : TypeId × Value → H) :
  ReturnsInHanded {} Try.checked os 5 .any (Rows.fnExactGoodServerSpec.pre6 enc Try.prog Try.f5 Rows.fnExactGoodServerRow.domain false) (Rows.fnExactGoodServerSpec.post enc Try.prog Try.f5 false true false false) := by
 refine returnsInHanded_of_change (C := Try.checked) own started (by kernel_rfl) Try.func5
  (ChangeSpec.witness6 (enc := enc) (C := Try.checked) false ⟨#[],#[.agg #[.slice none 0 0,.slice none 0 0,.int .i64 0,.int .i64 0]],[]⟩ 8 (by kernel_rfl) (by kernel_rfl) (by kernel_rfl) (by kernel_rfl)) ?_
 intro W base args ds gs before hval0 hW hcnd _
 have hval : ∀ (j : Nat) t v,Try.f5.params[j]? = some t → args[j]? = some v → Value.okWide Try.prog W .any base t v := hval0
 have hW' := hW
 obtain ⟨p,q,hA0,hV,rfl,hfz,hnd⟩ := hW
 have hA : DataW.TrodAll enc Try.prog W 0 (fun _ => true) true Try.f5.params.toList args.toList ds p := hA0
 rw [Try.params5] at hA hval
 obtain ⟨v0,vs0,d0,ds0,p0,q0,hargs,rfl,rfl,h0,r0⟩ := trodAll_cons hA
 obtain ⟨rfl,rfl,rfl⟩ := trodAll_nil r0
 obtain rfl : args = #[v0] := by cases args;simp_all
 obtain ⟨rfl,rfl⟩ := trodVars_none hV
 have lt0 : ∀ x ∈ p0,x.block < W.heap.size := by obtain ⟨m,hm⟩ := h0;exact DataW.trod_lt m _ _ _ hm
 have bk0 := fun {W' : World} (bel : Below W.heap.size W W') => Below.trod laidOut (by kernel_rfl) (of_decide_eq_true (by kernel_rfl)) h0 bel lt0
 obtain ⟨⟨l0_0,⟨l0_1,⟨a0_2,a0_3⟩⟩⟩,cs0,hv0,hK0,⟨o0_0,⟨o0_1,⟨o0_2,o0_3⟩⟩⟩⟩ := arg_struct Try.underlying40 (tells_struct Try.underlying40 (by kernel_rfl) (fs_cons rfl (tellsL Try.underlying38 (by kernel_rfl) tells96) (fs_cons rfl (tellsL Try.underlying22 (by kernel_rfl) (tellsB Try.underlying5 (by kernel_rfl))) (fs_cons rfl (tellsI Try.underlying3 (by kernel_rfl)) (fs_one rfl (tellsI Try.underlying3 (by kernel_rfl))))))) (hval 0 40 v0 rfl rfl) h0
 obtain ⟨_,_,rfl,⟨A0_0,c0_0,rfl,hl0_0,hC0_0⟩,⟨_,_,rfl,⟨A0_1,c0_1,rfl,hl0_1,hC0_1⟩,⟨_,_,rfl,rfl,rfl⟩⟩⟩ := hK0
 simp only [List.cons_append,List.nil_append] at hv0
 subst hv0
 obtain ⟨k,hk⟩ := Pure.FnExactGoodServer l0_0 l0_1 a0_2 a0_3 o0_0 o0_1 o0_2 o0_3
 refine (xj.calls k _ _ l0_0 _ _ l0_1 a0_2 a0_3 true W hC0_0 hl0_0 hC0_1 hl0_1 hk).mono fun e W' hpost => ?_
 obtain ⟨he,hb⟩ := hpost
 have bel : Below W.heap.size W W' := hb
 subst he
 exact ⟨_,rfl,_,_,_,[],_,[],hW',trodAll_mk1 (shut_bool Try.underlying4 _),(trodAll_cons_mk (bk0 bel) trodAll_mk0),rfl,bel.frame _,fun h => by cases h⟩
theorem over : Rows.fnExactGoodServerRow.holds Try.pinned (OpenSpec.ofChange Rows.fnExactGoodServerSpec) :=
 OpenClaim.holds_of_wide 5 Try.f5 rfl rfl rfl rfl rfl rfl rfl ⟨rfl,rfl,rfl,rfl,rfl⟩ rfl rfl rfl rfl rfl (by kernel_rfl) Try.func5 (by kernel_rfl)
  (of_decide_eq_true (by kernel_rfl)) (by unfold Func.isWrapper;first | (rw [if_pos (by decide +kernel)];kernel_rfl) | (rw [if_neg (by decide +kernel)];exact ⟨rfl,rfl⟩))
  (fun os started H enc _ => lifted os started H enc)
theorem proved : Rows.FnExactGoodServerSaid := over
#print axioms proved
end Go.Proofs.Ytakocdkcfjkmdaa.fnExactGoodServer
namespace Go.Proofs.Ytakocdkcfjkmdaa
theorem fnExactGoodServer_holds : Rows.FnExactGoodServerSaid := fnExactGoodServer.proved
end Go.Proofs.Ytakocdkcfjkmdaa
